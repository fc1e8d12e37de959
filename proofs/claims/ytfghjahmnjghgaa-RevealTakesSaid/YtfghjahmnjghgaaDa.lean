import Derived.Test.YtfghjahmnjghgaaVa
import Derived.WalkKit
import Derived.WalkSpells
import Derived.WalkLawsBesides
import Derived.Lib.Hide
import Derived.Lib.Builder
import Derived.Lib.UnsafeStr
import Derived.Lib.AppendStr
import Derived.ArgAppend
import Derived.Orders
import Derived.Below
import Derived.Deep.Draws
import Derived.Deep.RegionHeld3
import Derived.Laws.Tables
import Derived.Laws.Rows
import Derived.Deep.WholeRow
import Derived.Deep.MidRow
namespace Go.Proofs.Ytfghjahmnjghgaa
open Go.RowKit Go.Proofs.YtfghjahmnjghgaaW.PrintWords
section
variable {P : Program} {ops : Array Oper} {rest : List Oper} {o : Oper} {a : Act} {Q : Exit → Act → World → Prop} {α : Type} {W : World}
theorem gate_builtin {b : Builtin} {xs : Array Operand} {ts : Array TypeId} (_ho : o.op = .call { callee := .builtin b, args := xs, argTypes := ts }) (h : wpList P ops Q (o :: rest) a W) : wpList P ops Q (o :: rest) a W := h
/-- append(v, x) onto a row of the call's own; x's cells are cs and hold no rows. -/
theorem app1 (d : Kd α) {w0 W : World} (s x : Operand) (t e : TypeId) (z : Value) (bytes : Nat) (hgd : o.guard = none)
    (ho : o.op = .call { callee := .builtin .append, args := #[s, x], argTypes := #[t, t] })
    (ht : P.underlying t = some (.slice e)) (hinfo : (P.info? e).map (fun i => (i.zero, i.size, i.bytes)) = some (some z, d.sz, bytes)) (hz : z.cells.size = d.sz) (hs0 : 0 < d.sz) (hb0 : 0 < bytes)
    (v : Value) (xs : List α) (p : α) (cs : List Value) (hs : a.eval s = v) (hx : a.eval x = .slice (some ⟨W.heap.size, 0, none⟩) 1 1) (hp : d.M W w0.heap.size (fun _ => False) p cs)
    (HO : Aside0 (d.R e W w0.heap.size (fun _ => True) v xs)) (HB : Aside0 (Below w0.heap.size w0 W)) (hl : (xs.length + 1) * bytes ≤ 140737488355328)
    (h : ∀ v1 w1, Aside0 (d.R e w1 w0.heap.size (fun _ => True) v1 (xs ++ [p])) → Aside0 (Below w0.heap.size w0 w1) → wpList P ops Q rest (a.put o.dst v1) w1) :
    wpList P ops Q (o :: rest) a (W.alloc (.cells cs.toArray e)) :=
  Kd.R_append d w0.heap.size hgd s x t e z bytes ho ht hinfo hz hs0 hb0 v xs p cs (fun _ => True) (fun _ => False) hs hx hp (fun _ hk => hk.elim) (fun _ _ => trivial) HO.out HB.out HB.out.size hl
    (fun v1 w1 h1 h2 _ _ => h v1 w1 ⟨h1⟩ ⟨h2⟩)
end
/-- Closes 'Below B w0 W' for a W that is reached by new blocks and draws. -/
theorem asideBelow {w w' : World} (h : Below w.heap.size w w') : Aside0 (Below w.heap.size w w') := ⟨h⟩
theorem R_new_lit {α : Type} {enc : α → Value} {h1 : ∀ x, (enc x).oneCell' = true} (W : World) (base e : Nat) (xs : List α) (hb : base ≤ W.heap.size) (hm : xs.length ≤ 9223372036854775807) :
    (Kd.scalar enc h1).R e (W.alloc (.cells (xs.map enc).toArray e)) base (fun _ => True) (.slice (some ⟨W.heap.size, 0, none⟩) xs.length xs.length) xs := by
  refine Kd.R_of_own ?_ (fun _ _ => trivial)
  have h2 := World.ownsRow_lit (base := base) (e := e) (size := 1) W (xs.map enc).toArray xs.length hb (by simpa [maxLen] using hm) (by simp)
  simpa [encs] using h2
/-- A struct of scalars alone: its cells written out. -/
def flat {α : Type} (n : Nat) (enc : α → List Value) (hl : ∀ x, (enc x).length = n) (h1 : ∀ x, ∀ u ∈ enc x, u.oneCell' = true) : Kd α where
  sz := n
  E := []
  K := fun _ x cs => cs = enc x
  M := fun _ _ _ x cs => cs = enc x
  K_len := fun h => by rw [h]; exact hl _
  K_one := fun h => by rw [h]; exact h1 _
  K_below := fun _ h => h
  K_of_M := fun h => h
  M_mono := fun _ h => h
  M_bound := fun h => h
  M_move := fun _ h => h
  M_lower := fun _ h => h
theorem take_next {α : Type} {xs : List α} {k : Nat} {p : α} (h : xs[k]? = some p) : xs.take (k + 1) = xs.take k ++ [p] := by
  obtain ⟨hl, rfl⟩ := List.getElem?_eq_some_iff.1 h
  exact List.take_succ_eq_append_getElem hl
theorem bldAt_below {T e : TypeId} {B b : Nat} {p : Value} {bs : List Value} {w w' : World} (h : Lib.BuilderAt T e B b p bs w) (hb : Below w.heap.size w w') : Lib.BuilderAt T e B b p bs w' := by
  obtain ⟨hB, v, hh, hown, hne⟩ := h
  exact ⟨hB, v, (hb.block b (blk_lt hh)).trans hh, pw_own_below hown hb, hne⟩
theorem bld_below {T e : TypeId} {B b : Nat} {bs : List Value} {w w' : World} (h : Lib.IsBuilder T e B b bs w) (hb : Below w.heap.size w w') : Lib.IsBuilder T e B b bs w' :=
  h.imp (fun h => bldAt_below h hb) (fun h => bldAt_below h hb)
theorem ret_congr {a b : Value} (h : a = b) : Ending.returned a = Ending.returned b := by rw [h]
theorem cells_str (l : List UInt8) (s : ByteArray) : Lib.byteCells (l ++ s.data.toList) = Lib.byteCells l ++ Lib.strCells s := by simp [Lib.byteCells, Lib.strCells]
/-- A row of flat structs read at k. -/
theorem flat_at {α : Type} {m : Nat} {enc : α → List Value} {hl : ∀ x, (enc x).length = m} {h1 : ∀ x, ∀ u ∈ enc x, u.oneCell' = true} {w : World} {A : Option Addr} {n : Nat} {xs : List α}
    (h : (flat m enc hl h1).C w A n xs) (i : Nat) (hi : i < n) : ∃ ad p, A = some ad ∧ xs[i]? = some p ∧ ∀ j u, (enc p)[j]? = some u → w.cell? (ad.add (i * m + j)) = some u := by
  obtain ⟨ad, e, hc⟩ := h.2.2 (by omega)
  have hlt : i < xs.length := by have := h.1; omega
  obtain ⟨c, hs, hr, hcell⟩ := hc i _ (List.getElem?_eq_getElem hlt)
  have hr' : c = enc xs[i] := hr
  subst hr'
  exact ⟨ad, xs[i], e, List.getElem?_eq_getElem hlt, hcell⟩
theorem alloc_cell {w : World} {a : Addr} {v : Value} (h : w.cell? a = some v) (o : Obj) : (w.alloc o).cell? a = some v := pw_cell_below (below_alloc (Below.refl _ _) o) h
theorem int_beq (a b : Nat) : ((a : Int) == (b : Int)) = (a == b) := by rw [Bool.eq_iff_iff, beq_iff_eq, beq_iff_eq]; omega
theorem mk_append (a b : List UInt8) : (⟨a.toArray⟩ : ByteArray) ++ ⟨b.toArray⟩ = ⟨(a ++ b).toArray⟩ := by
  apply ByteArray.ext; simp
/-- 'string([]byte{x})'. -/
theorem conv_lit1 {P : Program} {src dst e : TypeId} (hs : P.underlying src = some (.slice e)) (he : P.underlying e = some (.int .u8)) (hd : P.underlying dst = some .string) (W : World) (x : Int) :
    (convert src dst (.slice (some ⟨W.heap.size, 0, none⟩) 1 1)).run P (W.alloc (.cells #[.int .u8 x] e)) = .ok (.string ⟨[UInt8.ofNat x.toNat].toArray⟩) (W.alloc (.cells #[.int .u8 x] e)) :=
  own_string hs he hd (Kd.own_of_R (h1 := fun _ => rfl) (ok := fun _ => True) (R_new_lit W W.heap.size e [x] (Nat.le_refl _) (by simp)))
theorem zip_take {α β : Type} {xs : List α} {ys : List β} {k : Nat} {p : α} {q : β} (hx : xs[k]? = some p) (hy : ys[k]? = some q) (f : α × β → Bool) : ((xs.take (k+1)).zip (ys.take (k+1))).all f = (((xs.take k).zip (ys.take k)).all f && f (p, q)) := by
  obtain ⟨hl, _⟩ := List.getElem?_eq_some_iff.1 hx
  obtain ⟨hl', _⟩ := List.getElem?_eq_some_iff.1 hy
  rw [take_next hx, take_next hy, List.zip_append (by simp; omega)]
  simp
theorem R_empty_lit {α : Type} (d : Kd α) (W : World) (base e : Nat) (hb : base ≤ W.heap.size) :
    d.R e (W.alloc (.cells #[] e)) base (fun _ => True) (.slice (some ⟨W.heap.size, 0, none⟩) 0 0) [] := by
  refine ⟨fun _ _ => trivial, [], ?_, ⟨by simp, fun j p h => by simp at h⟩⟩
  have h2 := World.ownsRow_lit (base := base) (e := e) (size := d.sz) W #[] 0 hb (by simp [maxLen]) (by simp)
  simpa using h2
section
variable {P : Program} {ops : Array Oper} {rest : List Oper} {o : Oper} {a : Act} {Q : Exit → Act → World → Prop} {α : Type} {W : World}
/-- append(v, ys...) onto a row of the call's own; ys is read, of a kind that holds no rows. -/
theorem app_rows (d : Kd α) {w0 : World} (s x : Operand) (t e : TypeId) (z : Value) (bytes : Nat) (hgd : o.guard = none)
    (ho : o.op = .call { callee := .builtin .append, args := #[s, x], argTypes := #[t, t] })
    (ht : P.underlying t = some (.slice e)) (hinfo : (P.info? e).map (fun i => (i.zero, i.size, i.bytes)) = some (some z, d.sz, bytes)) (hz : z.cells.size = d.sz) (hs0 : 0 < d.sz) (hb0 : 0 < bytes)
    (hKM : ∀ x cs, d.K W x cs → d.M W w0.heap.size (fun _ => False) x cs)
    (v : Value) (xs ys : List α) (A : Option Addr) (m c : Nat) (hs : a.eval s = v) (hx : a.eval x = .slice A m c)
    (HO : Aside0 (d.R e W w0.heap.size (fun _ => True) v xs)) (HR : d.C W A m ys) (HB : Aside0 (Below w0.heap.size w0 W)) (hl : (xs.length + m) * bytes ≤ 140737488355328)
    (h : ∀ v1 w1, Aside0 (d.R e w1 w0.heap.size (fun _ => True) v1 (xs ++ ys)) → Aside0 (Below w0.heap.size w0 w1) → W.grownBy w1 v.ownBlock → wpList P ops Q rest (a.put o.dst v1) w1) :
    wpList P ops Q (o :: rest) a W :=
  Kd.R_append_rows d w0.heap.size hgd s x t e z bytes ho ht hinfo hz hs0 hb0 v xs ys A m c (fun _ => True) (fun _ => False) hs hx HO.out HR hKM (fun _ hk => hk.elim) (fun _ _ => trivial) HB.out HB.out.size hl
    (fun v1 w1 h1 h2 h3 _ => h v1 w1 ⟨h1⟩ ⟨h2⟩ h3)
end
end Go.Proofs.Ytfghjahmnjghgaa

namespace Go.Proofs.Ytfghjahmnjghgaa
open Go.RowKit Go.Proofs.YtfghjahmnjghgaaW.PrintWords
theorem reps_one {α : Type} {R : α → List Value → Prop} {size : Nat} {ps : List α} {cs : List Value} (h : Reps R size ps cs) (hs0 : 0 < size) (hR : ∀ p c, R p c → ∀ u ∈ c, u.oneCell' = true) : ∀ u ∈ cs, u.oneCell' = true := by
  intro u hu
  obtain ⟨q, hq, rfl⟩ := List.mem_iff_getElem.1 hu
  have hql : q / size < ps.length := by
    rw [Nat.div_lt_iff_lt_mul hs0, ← h.1]; exact hq
  refine hR _ _ (h.2 (q / size) _ (List.getElem?_eq_getElem hql)) _ ?_
  rw [List.mem_iff_getElem?]
  refine ⟨q % size, ?_⟩
  rw [List.getElem?_take, if_pos (Nat.mod_lt _ hs0), List.getElem?_drop, Nat.mul_comm, Nat.div_add_mod, List.getElem?_eq_getElem hq]
/-- A slice value that reads as xs. -/
def Out {α : Type} (d : Kd α) (w : World) (v : Value) (xs : List α) : Prop := ∃ A c, v = .slice A xs.length c ∧ xs.length ≤ c ∧ c ≤ 9223372036854775807 ∧ d.C w A xs.length xs
theorem Out.below {α : Type} {d : Kd α} {w w' : World} {v : Value} {xs : List α} (h : Out d w v xs) (hb : Below w.heap.size w w') : Out d w' v xs := by
  obtain ⟨A, c, rfl, h1, h2, h3⟩ := h
  exact ⟨A, c, rfl, h1, h2, Kd.C_below h3 hb⟩
theorem Out_nil {α : Type} (d : Kd α) (w : World) : Out d w (.slice none 0 0) [] := ⟨none, 0, rfl, Nat.le_refl _, by omega, Kd.C_nil d w⟩
theorem C_box {α : Type} {d : Kd α} {W : World} {p : α} {cs : List Value} (e : TypeId) (h : d.K (W.alloc (.cells cs.toArray e)) p cs) : d.C (W.alloc (.cells cs.toArray e)) (some ⟨W.heap.size, 0, none⟩) 1 [p] := by
  refine ⟨rfl, by omega, fun _ => ⟨_, rfl, fun j q hj => ?_⟩⟩
  rcases j with _ | j
  · have hq : p = q := by simpa using hj
    subst hq
    refine ⟨cs, d.K_len h, h, fun i u hu => ?_⟩
    rw [Nat.zero_mul, Nat.zero_add]
    exact World.news_of_block (cs := cs.toArray) (t := e) (fr := (0, 0)) (heap_alloc_new W (.cells cs.toArray e)) i u (by simpa using hu)
  · simp at hj
theorem keep1 {w w' : World} {a0 : Addr} {v0 : Value} (hb : Below w.heap.size w w') (h : w.cell? a0 = some v0) : w'.cell? a0 = some v0 := pw_cell_below hb h
theorem keep2 {w w' : World} {a0 a1 : Addr} {v0 v1 : Value} (hb : Below w.heap.size w w') (h : w.cell? a0 = some v0 ∧ w.cell? a1 = some v1) : w'.cell? a0 = some v0 ∧ w'.cell? a1 = some v1 := by
  obtain ⟨h0, h1⟩ := h
  exact ⟨pw_cell_below hb h0, pw_cell_below hb h1⟩
theorem keep3 {w w' : World} {a0 a1 a2 : Addr} {v0 v1 v2 : Value} (hb : Below w.heap.size w w') (h : w.cell? a0 = some v0 ∧ w.cell? a1 = some v1 ∧ w.cell? a2 = some v2) : w'.cell? a0 = some v0 ∧ w'.cell? a1 = some v1 ∧ w'.cell? a2 = some v2 := by
  obtain ⟨h0, h1, h2⟩ := h
  exact ⟨pw_cell_below hb h0, pw_cell_below hb h1, pw_cell_below hb h2⟩
theorem keep4 {w w' : World} {a0 a1 a2 a3 : Addr} {v0 v1 v2 v3 : Value} (hb : Below w.heap.size w w') (h : w.cell? a0 = some v0 ∧ w.cell? a1 = some v1 ∧ w.cell? a2 = some v2 ∧ w.cell? a3 = some v3) : w'.cell? a0 = some v0 ∧ w'.cell? a1 = some v1 ∧ w'.cell? a2 = some v2 ∧ w'.cell? a3 = some v3 := by
  obtain ⟨h0, h1, h2, h3⟩ := h
  exact ⟨pw_cell_below hb h0, pw_cell_below hb h1, pw_cell_below hb h2, pw_cell_below hb h3⟩
theorem keep5 {w w' : World} {a0 a1 a2 a3 a4 : Addr} {v0 v1 v2 v3 v4 : Value} (hb : Below w.heap.size w w') (h : w.cell? a0 = some v0 ∧ w.cell? a1 = some v1 ∧ w.cell? a2 = some v2 ∧ w.cell? a3 = some v3 ∧ w.cell? a4 = some v4) : w'.cell? a0 = some v0 ∧ w'.cell? a1 = some v1 ∧ w'.cell? a2 = some v2 ∧ w'.cell? a3 = some v3 ∧ w'.cell? a4 = some v4 := by
  obtain ⟨h0, h1, h2, h3, h4⟩ := h
  exact ⟨pw_cell_below hb h0, pw_cell_below hb h1, pw_cell_below hb h2, pw_cell_below hb h3, pw_cell_below hb h4⟩
theorem keep6 {w w' : World} {a0 a1 a2 a3 a4 a5 : Addr} {v0 v1 v2 v3 v4 v5 : Value} (hb : Below w.heap.size w w') (h : w.cell? a0 = some v0 ∧ w.cell? a1 = some v1 ∧ w.cell? a2 = some v2 ∧ w.cell? a3 = some v3 ∧ w.cell? a4 = some v4 ∧ w.cell? a5 = some v5) : w'.cell? a0 = some v0 ∧ w'.cell? a1 = some v1 ∧ w'.cell? a2 = some v2 ∧ w'.cell? a3 = some v3 ∧ w'.cell? a4 = some v4 ∧ w'.cell? a5 = some v5 := by
  obtain ⟨h0, h1, h2, h3, h4, h5⟩ := h
  exact ⟨pw_cell_below hb h0, pw_cell_below hb h1, pw_cell_below hb h2, pw_cell_below hb h3, pw_cell_below hb h4, pw_cell_below hb h5⟩
theorem keep7 {w w' : World} {a0 a1 a2 a3 a4 a5 a6 : Addr} {v0 v1 v2 v3 v4 v5 v6 : Value} (hb : Below w.heap.size w w') (h : w.cell? a0 = some v0 ∧ w.cell? a1 = some v1 ∧ w.cell? a2 = some v2 ∧ w.cell? a3 = some v3 ∧ w.cell? a4 = some v4 ∧ w.cell? a5 = some v5 ∧ w.cell? a6 = some v6) : w'.cell? a0 = some v0 ∧ w'.cell? a1 = some v1 ∧ w'.cell? a2 = some v2 ∧ w'.cell? a3 = some v3 ∧ w'.cell? a4 = some v4 ∧ w'.cell? a5 = some v5 ∧ w'.cell? a6 = some v6 := by
  obtain ⟨h0, h1, h2, h3, h4, h5, h6⟩ := h
  exact ⟨pw_cell_below hb h0, pw_cell_below hb h1, pw_cell_below hb h2, pw_cell_below hb h3, pw_cell_below hb h4, pw_cell_below hb h5, pw_cell_below hb h6⟩
theorem keep8 {w w' : World} {a0 a1 a2 a3 a4 a5 a6 a7 : Addr} {v0 v1 v2 v3 v4 v5 v6 v7 : Value} (hb : Below w.heap.size w w') (h : w.cell? a0 = some v0 ∧ w.cell? a1 = some v1 ∧ w.cell? a2 = some v2 ∧ w.cell? a3 = some v3 ∧ w.cell? a4 = some v4 ∧ w.cell? a5 = some v5 ∧ w.cell? a6 = some v6 ∧ w.cell? a7 = some v7) : w'.cell? a0 = some v0 ∧ w'.cell? a1 = some v1 ∧ w'.cell? a2 = some v2 ∧ w'.cell? a3 = some v3 ∧ w'.cell? a4 = some v4 ∧ w'.cell? a5 = some v5 ∧ w'.cell? a6 = some v6 ∧ w'.cell? a7 = some v7 := by
  obtain ⟨h0, h1, h2, h3, h4, h5, h6, h7⟩ := h
  exact ⟨pw_cell_below hb h0, pw_cell_below hb h1, pw_cell_below hb h2, pw_cell_below hb h3, pw_cell_below hb h4, pw_cell_below hb h5, pw_cell_below hb h6, pw_cell_below hb h7⟩
section
variable {P : Program} {ops : Array Oper} {rest : List Oper} {o : Oper} {a : Act} {Q : Exit → Act → World → Prop} {α : Type} {W : World}
/-- append(v, ys...) onto a full slice (of whomever): a new row. -/
theorem run_app_full (d : Kd α) (t ty e : TypeId) (z : Value) (bytes : Nat)
    (ht : P.underlying t = some (.slice e)) (hinfo : (P.info? e).map (fun i => (i.zero, i.size, i.bytes)) = some (some z, d.sz, bytes)) (hz : z.cells.size = d.sz) (hs0 : 0 < d.sz) (hb0 : 0 < bytes)
    (A : Option Addr) (n cap : Nat) (xs : List α) (hC : d.C W A n xs) (hn : A = none → n = 0 ∧ cap = 0)
    (Ax : Option Addr) (m c : Nat) (ys : List α) (hC2 : d.C W Ax m ys) (hm : cap < n + m) (hm0 : 0 < m) (hl : (n + m) * bytes ≤ 140737488355328) :
    ∃ v1 w1, (Builtin.append_ #[t, t] ty #[.slice A n cap, .slice Ax m c]).run P W = .ok v1 w1 ∧ Out d w1 v1 (xs ++ ys) ∧ Below W.heap.size W w1 := by
  obtain ⟨i0, hi, hzz⟩ := Option.map_eq_some_iff.1 hinfo
  simp only [Prod.mk.injEq] at hzz
  obtain ⟨hz0, hz1, hz2⟩ := hzz
  have hlen : n + m ≤ 140737488355328 := Nat.le_trans (Nat.le_mul_of_pos_right _ hb0) hl
  obtain ⟨adx, rfl, _⟩ := hC2.2.2 hm0
  obtain ⟨news, hr2, hc2⟩ := ReadsRow.inner_ hC2
  have hny : ys.length = m := hC2.1
  have hnx : xs.length = n := hC.1
  have hxy : (xs ++ ys).length = n + m := by rw [List.length_append, hnx, hny]
  have fin : ∀ v1 w1 (olds : List Value), Reps (d.K W) d.sz xs olds → w1.ownsRow W.heap.size e d.sz v1 (n + m) (olds ++ news) → W.grownBy w1 none → Out d w1 v1 (xs ++ ys) ∧ Below W.heap.size W w1 := by
    intro v1 w1 olds hr1 hown hg
    have hb : Below W.heap.size W w1 := (Below.refl _ _).grown hg (Nat.le_refl _) (fun k hk => by cases hk)
    refine ⟨?_, hb⟩
    obtain ⟨A1, c1, rfl, hr⟩ := own_reads_row hown ((Kd.reps_append hr1 hr2).imp_ (fun p c hk => d.K_below hb hk)) hxy
    have hcc : n + m ≤ c1 ∧ c1 ≤ 9223372036854775807 := by
      rcases hown.2 with ⟨he, h0⟩ | ⟨g, cap, cur, he, _, _, h2, h3, _⟩
      · omega
      · injection he with _ _ he
        subst he
        exact ⟨h2, by simpa [maxLen] using h3⟩
    refine ⟨A1, c1, by rw [hxy], by omega, hcc.2, ?_⟩
    rw [hxy]; exact hr
  cases A with
  | none =>
    obtain ⟨rfl, rfl⟩ := hn rfl
    obtain rfl : xs = [] := List.eq_nil_of_length_eq_zero hnx
    obtain ⟨v1, w1, hrun, h1, h2, _⟩ := run_append_own (P := P) W W.heap.size t ty e i0 z d.sz bytes ht hi hz0 hz1 hz2 hz hs0 (.slice none 0 0) 0 [] (World.ownsRow_nil _ _ _ _) adx m c news (by rw [hr2.1, hny]) hc2 (reps_one hr2 hs0 (fun p c hk => d.K_one hk)) (by simp only [maxLen]; omega) hl (Nat.le_refl _)
    exact ⟨v1, w1, hrun, fin v1 w1 [] (Reps.none _ _) h1 h2⟩
  | some b =>
    obtain ⟨olds, hr1, hc1⟩ := ReadsRow.inner_ hC
    obtain ⟨v1, w1, hrun, h1, h2⟩ := run_append_arg_grows (P := P) W t ty e i0 z d.sz bytes ht hi hz0 hz1 hz2 hz hs0 b n cap olds (by rw [hr1.1, hnx]) hc1 adx m c news (by rw [hr2.1, hny]) hc2 hm (by simp only [maxLen]; omega) hl
    exact ⟨v1, w1, hrun, fin v1 w1 olds hr1 h1 h2⟩
theorem app_full (d : Kd α) (s x : Operand) (t e : TypeId) (z : Value) (bytes : Nat) (hgd : o.guard = none)
    (ho : o.op = .call { callee := .builtin .append, args := #[s, x], argTypes := #[t, t] })
    (ht : P.underlying t = some (.slice e)) (hinfo : (P.info? e).map (fun i => (i.zero, i.size, i.bytes)) = some (some z, d.sz, bytes)) (hz : z.cells.size = d.sz) (hs0 : 0 < d.sz) (hb0 : 0 < bytes)
    (A : Option Addr) (n cap : Nat) (xs : List α) (hs : a.eval s = .slice A n cap) (hC : d.C W A n xs) (hn : A = none → n = 0 ∧ cap = 0)
    (Ax : Option Addr) (m c : Nat) (ys : List α) (hx : a.eval x = .slice Ax m c) (hC2 : d.C W Ax m ys) (hm : cap < n + m) (hm0 : 0 < m) (hl : (n + m) * bytes ≤ 140737488355328)
    (h : ∀ v1 w1, Out d w1 v1 (xs ++ ys) → Below W.heap.size W w1 → wpList P ops Q rest (a.put o.dst v1) w1) :
    wpList P ops Q (o :: rest) a W := by
  obtain ⟨v1, w1, hrun, h1, h2⟩ := run_app_full (P := P) d t o.type e z bytes ht hinfo hz hs0 hb0 A n cap xs hC hn Ax m c ys hC2 hm hm0 hl
  refine wpList_plain hgd fun K hK => ?_
  unfold Oper.wp execOp
  simp only [ho, resolve, invoke, builtin, Sem.run_bind, Sem.run_pure, Result.andThen_ok, List.map_toArray, List.map_cons, List.map_nil, hs, hx, hrun]
  exact hK _ _ (h v1 w1 h1 h2)
/-- The same as a step of a region that draws its order. -/
theorem app_full_step (d : Kd α) {Kc : Act → World → Prop} {N : Option Tmp} (s x : Operand) (t e : TypeId) (z : Value) (bytes : Nat) (hw : Region.wanted o (yielded ops a.tmps) = true) (hN : o.dst = N)
    (ho : o.op = .call { callee := .builtin .append, args := #[s, x], argTypes := #[t, t] })
    (ht : P.underlying t = some (.slice e)) (hinfo : (P.info? e).map (fun i => (i.zero, i.size, i.bytes)) = some (some z, d.sz, bytes)) (hz : z.cells.size = d.sz) (hs0 : 0 < d.sz) (hb0 : 0 < bytes)
    (A : Option Addr) (n cap : Nat) (xs : List α) (hs : a.eval s = .slice A n cap) (hC : d.C W A n xs) (hn : A = none → n = 0 ∧ cap = 0)
    (Ax : Option Addr) (m c : Nat) (ys : List α) (hx : a.eval x = .slice Ax m c) (hC2 : d.C W Ax m ys) (hm : cap < n + m) (hm0 : 0 < m) (hl : (n + m) * bytes ≤ 140737488355328)
    (h : ∀ v1 w1, Out d w1 v1 (xs ++ ys) → Below W.heap.size W w1 → Kc (a.put N v1) w1) :
    if Region.wanted o (yielded ops a.tmps) = true then Oper.wp P o a W Kc Q else Kc (a.put N undef) W := by
  obtain ⟨v1, w1, hrun, h1, h2⟩ := run_app_full (P := P) d t o.type e z bytes ht hinfo hz hs0 hb0 A n cap xs hC hn Ax m c ys hC2 hm hm0 hl
  rw [if_pos hw]
  subst hN
  unfold Oper.wp execOp
  simp only [ho, resolve, invoke, builtin, Sem.run_bind, Sem.run_pure, Result.andThen_ok, List.map_toArray, List.map_cons, List.map_nil, hs, hx, hrun]
  exact h v1 w1 h1 h2
/-- append(v, ys...) where ys is empty: v itself. -/
theorem run_app_none (t ty e : TypeId) (ht : P.underlying t = some (.slice e)) (hinfo : (P.info? e).isSome = true)
    (A : Option Addr) (n cap : Nat) (hnc : n ≤ cap) (hn : A = none → n = 0) (Ax : Option Addr) (c : Nat) :
    (Builtin.append_ #[t, t] ty #[.slice A n cap, .slice Ax 0 c]).run P W = .ok (.slice A n cap) W := by
  obtain ⟨i0, hi⟩ := Option.isSome_iff_exists.1 hinfo
  cases A with
  | none =>
    obtain rfl := hn rfl
    cases Ax <;> simp [Builtin.append_, run_underlying ht, sizeOf, typeInfo, hi, Builtin.lenOf, Builtin.firstCells, hnc, loadCells, loadCellsFrom]
  | some b =>
    cases Ax <;> simp [Builtin.append_, run_underlying ht, sizeOf, typeInfo, hi, Builtin.lenOf, Builtin.firstCells, hnc, storeCells, loadCells, loadCellsFrom]
theorem app_none_step {Kc : Act → World → Prop} {N : Option Tmp} (s x : Operand) (t e : TypeId) (hw : Region.wanted o (yielded ops a.tmps) = true) (hN : o.dst = N)
    (ho : o.op = .call { callee := .builtin .append, args := #[s, x], argTypes := #[t, t] })
    (ht : P.underlying t = some (.slice e)) (hinfo : (P.info? e).isSome = true)
    (A : Option Addr) (n cap : Nat) (hs : a.eval s = .slice A n cap) (hnc : n ≤ cap) (hn : A = none → n = 0) (Ax : Option Addr) (c : Nat) (hx : a.eval x = .slice Ax 0 c)
    (h : Kc (a.put N (.slice A n cap)) W) :
    if Region.wanted o (yielded ops a.tmps) = true then Oper.wp P o a W Kc Q else Kc (a.put N undef) W := by
  have hrun := run_app_none (P := P) (W := W) t o.type e ht hinfo A n cap hnc hn Ax c
  rw [if_pos hw]
  subst hN
  unfold Oper.wp execOp
  simp only [ho, resolve, invoke, builtin, Sem.run_bind, Sem.run_pure, Result.andThen_ok, List.map_toArray, List.map_cons, List.map_nil, hs, hx, hrun]
  exact h
end
theorem C_drop {α : Type} {d : Kd α} {ad : Addr} {n : Nat} {xs : List α} {w : World} (h : d.C w (some ad) n xs) (k : Nat) (hk : k ≤ n) : d.C w (some (ad.add (k * d.sz))) (n - k) (xs.drop k) := by
  obtain ⟨h1, h2, h3⟩ := h
  refine ⟨by simp; omega, by omega, fun hp => ?_⟩
  obtain ⟨ad', e, hc⟩ := h3 (by omega)
  injection e with e
  subst e
  refine ⟨_, rfl, fun j p hj => ?_⟩
  obtain ⟨c, hl, hK, hcell⟩ := hc (k + j) p (by rw [List.getElem?_drop] at hj; exact hj)
  refine ⟨c, hl, hK, fun i u hu => ?_⟩
  rw [add_add, show k * d.sz + (j * d.sz + i) = (k + j) * d.sz + i by rw [Nat.add_mul]; omega]
  exact hcell i u hu
theorem C_take {α : Type} {d : Kd α} {A : Option Addr} {n : Nat} {xs : List α} {w : World} (h : d.C w A n xs) (k : Nat) (hk : k ≤ n) : d.C w A k (xs.take k) := by
  obtain ⟨h1, h2, h3⟩ := h
  refine ⟨by simp; omega, by omega, fun hp => ?_⟩
  obtain ⟨ad, e, hc⟩ := h3 (by omega)
  exact ⟨ad, e, fun j p hj => hc j p (by rw [List.getElem?_take] at hj; split at hj <;> first | exact hj | cases hj)⟩
end Go.Proofs.Ytfghjahmnjghgaa

namespace Go.Proofs.Ytfghjahmnjghgaa
open Go.RowKit
/-- Only new blocks. -/
def Gr (w w1 : World) : Prop := Below w.heap.size w w1
theorem Gr.refl (w : World) : Gr w w := Below.refl _ _
theorem Gr.trans {a b c : World} (h : Gr a b) (k : Gr b c) : Gr a c := Below.trans h (Below.mono k (Below.size h))
theorem Gr.drew {a b : World} (h : Gr a b) : Gr a b.drew := Below.drew h

section
variable {P : Program} {ops : Array Oper} {Q : Exit → Act → World → Prop} {md : Region.Mode} {ds : List Nat}

/-- A run that gives v, and makes memory at most. -/
def RunG (P : Program) (w : World) (v : Value) : Result Next → Prop
  | .ok (.value u) w' => u = v ∧ Gr w w'
  | .ok (.enter f args) w' => Gr w w' ∧ Calls P f args w' fun e w'' => e = .returned v ∧ Gr w w''
  | _ => False
/-- An operation that gives v, in every world that has grown out of w. -/
def YG (P : Program) (ops : Array Oper) (o : Oper) (v : Value) (a : Act) (w : World) : Prop :=
  (Region.wanted o (yielded ops a.tmps) = true ∧ ∀ w1, Gr w w1 → RunG P w1 v ((execOp a.eval o).run P w1)) ∨
  (Region.wanted o (yielded ops a.tmps) = false ∧ v = undef)
theorem YG.up {o : Oper} {v : Value} {a : Act} {w w1 : World} (h : YG P ops o v a w) (hg : Gr w w1) : YG P ops o v a w1 :=
  h.imp (fun h => ⟨h.1, fun w2 h2 => h.2 w2 (hg.trans h2)⟩) id
theorem YG.of_same {o : Oper} {v : Value} {a a' : Act} {w : World} (hy : YG P ops o v a w) (he : execOp a'.eval o = execOp a.eval o)
    (hw : Region.wanted o (yielded ops a'.tmps) = Region.wanted o (yielded ops a.tmps)) : YG P ops o v a' w := by
  unfold YG at *
  rw [he, hw]
  exact hy
theorem RunG.wp {o : Oper} {v : Value} {a : Act} {w : World} {K : Act → World → Prop} (h : RunG P w v ((execOp a.eval o).run P w))
    (hK : ∀ w', Gr w w' → K (a.put o.dst v) w') : o.wp P a w K Q := by
  unfold Oper.wp
  generalize (execOp a.eval o).run P w = r at *
  cases r with
  | ok n w' =>
    cases n <;> simp only [RunG] at h
    case value u => obtain ⟨rfl, hg⟩ := h; exact hK _ hg
    case enter f args =>
      refine Calls.mono h.2 fun e w'' he => ?_
      obtain ⟨rfl, hg⟩ := he
      exact hK _ hg
  | halt x w' => exact h.elim
theorem YG.wpOp {i : Nat} {o : Oper} {v : Value} {a : Act} {w : World} (hi : ops[i]? = some o) (hy : YG P ops o v a w)
    {K : Act → World → Prop} (h : ∀ w', Gr w w' → K (a.put o.dst v) w') : Go.wpOp P ops Q i K a w := by
  unfold Go.wpOp
  simp only [hi]
  rcases hy with ⟨hw, hv⟩ | ⟨hw, rfl⟩
  · simp only [hw, if_true]; exact .inl ((hv w (.refl w)).wp h)
  · simp only [hw, Bool.false_eq_true, if_false]; exact h _ (.refl w)

/-- An operation j that has nothing to do with i may as well run ahead of it. -/
theorem wpOp_putG {j : Nat} {oi oj : Oper} {v : Value} (hj : ops[j]? = some oj) (hap : oi.apart ops oj = true)
    (hsi : ∀ cs b, oi.op ≠ .select cs b) (hsj : ∀ cs b, oj.op ≠ .select cs b)
    (hQ : ∀ c a w, Q (.panic c) (a.put oi.dst v) w → Q (.panic c) a w) {K : Act → World → Prop} {a : Act} {w : World}
    (h : wpOp P ops Q j K (a.put oi.dst v) w) :
    wpOp P ops Q j (fun a' w' => (execOp a'.eval oi = execOp a.eval oi ∧ Region.wanted oi (yielded ops a'.tmps) = Region.wanted oi (yielded ops a.tmps)) ∧ K (a'.put oi.dst v) w') a w := by
  obtain ⟨h1, h2, h3⟩ := Oper.apart_spec hap
  have keep : ∀ (a : Act) u, execOp (a.put oj.dst u).eval oi = execOp a.eval oi ∧ Region.wanted oi (yielded ops (a.put oj.dst u).tmps) = Region.wanted oi (yielded ops a.tmps) := fun a u =>
    ⟨execOp_put oi hsi a oj.dst u h3, wanted_put oi a oj.dst u h3⟩
  unfold wpOp at *
  simp only [hj] at *
  rw [wanted_put oj a oi.dst v h1] at h
  split
  · rename_i hw
    simp only [hw, if_true] at h
    rcases h with h | ⟨hasks, hlets⟩
    case inr => exact .inr ⟨by unfold Oper.asks at *; rw [execOp_put oj hsj a oi.dst v h1] at hasks; exact hasks, hlets⟩
    refine .inl ?_
    unfold Oper.wp at *
    rw [execOp_put oj hsj a oi.dst v h1] at h
    generalize (execOp a.eval oj).run P w = r at *
    cases r with
    | ok n w' =>
      cases n <;> simp only [Oper.upon] at h ⊢
      case value u => exact ⟨keep a u, by rw [← Act.put_comm a v u h2]; exact h⟩
      case skip => exact ⟨keep a _, by rw [← Act.put_comm a v undef h2]; exact h⟩
      case defer d =>
        refine ⟨keep { a with defers := d :: a.defers } _, ?_⟩
        rw [← Act.put_comm _ v undef h2, ← Act.put_defers]
        exact h
      case enter f args =>
        refine Calls.mono h fun e w'' he => ?_
        cases e with
        | returned u => exact ⟨keep a u, by rw [← Act.put_comm a v u h2]; exact he⟩
        | panicked c => exact hQ _ _ _ he
        | outgrown => exact he
      case row row args => exact Rows.mono h fun u w'' he => ⟨keep a u, by rw [← Act.put_comm a v u h2]; exact he⟩
    | halt x w' =>
      cases x <;> simp only [Oper.upon] at h ⊢
      case panic u => exact hQ _ _ _ h
  · rename_i hw
    simp only [hw] at h
    exact ⟨keep a _, by rw [← Act.put_comm a v undef h2]; exact h⟩

/-! ### reachability, closed lists (as in the print's words for a last store) -/
def reachB (md : Region.Mode) (ops : Array Oper) (i : Nat) : Nat → Nat → Bool
  | 0, _ => false
  | fuel + 1, d => match ops[d]? with
    | some o => o.after.any fun e => Region.binds md e && (e.on == i || reachB md ops i fuel e.on)
    | none => false
def closedB (md : Region.Mode) (ops : Array Oper) (listed : Array Bool) : Bool :=
  (List.range ops.size).all fun j => !listed.getD j false || match ops[j]? with
    | some o => o.after.all fun e => !Region.binds md e || listed.getD e.on false
    | none => true
def lastB (md : Region.Mode) (ops : Array Oper) (listed : Array Bool) (ds : List Nat) (i : Nat) : Bool :=
  ds.all fun d => listed.getD d true || reachB md ops i ops.size d
def LClosed (md : Region.Mode) (ops : Array Oper) (listed : Array Bool) : Prop :=
  ∀ j oj, ops[j]? = some oj → listed.getD j false = true → ∀ e ∈ oj.after, Region.binds md e = true → listed.getD e.on false = true
theorem closedB_spec {listed : Array Bool} (h : closedB md ops listed = true) : LClosed md ops listed := by
  intro j oj hj hl e he hb
  have hlt : j < ops.size := (Array.getElem?_eq_some_iff.1 hj).1
  have h1 := List.all_eq_true.1 h j (List.mem_range.2 hlt)
  simp only [hl, hj, Bool.not_true, Bool.false_or] at h1
  have h2 := Array.all_eq_true_iff_forall_mem.1 h1 e he
  simpa [hb] using h2
theorem LClosed.set {listed : Array Bool} {i : Nat} (h : LClosed md ops listed) (hi : i ∈ Region.ready md ops listed) : LClosed md ops (listed.setIfInBounds i true) := by
  obtain ⟨_, oi, hoi, hall⟩ := mem_ready.1 hi
  intro j oj hj hl e he hb
  by_cases hij : i = j
  · subst hij
    have : oj = oi := Option.some.inj (hj.symm.trans hoi)
    subst this
    exact getD_set_true (hall e he hb)
  · rw [getD_set_ne false hij] at hl
    exact getD_set_true (h j oj hj hl e he hb)
theorem reach_listed {listed : Array Bool} {i : Nat} (hc : LClosed md ops listed) : ∀ (fuel d : Nat), reachB md ops i fuel d = true → listed.getD d false = true → listed.getD i false = true
  | 0, _, h, _ => by simp [reachB] at h
  | fuel + 1, d, h, hl => by
    unfold reachB at h
    cases ho : ops[d]? with
    | none => rw [ho] at h; simp at h
    | some o =>
      rw [ho] at h
      obtain ⟨e, he, h1⟩ := Array.any_eq_true'.1 h
      simp only [Bool.and_eq_true, Bool.or_eq_true, beq_iff_eq] at h1
      have hle := hc d o ho hl e he h1.1
      rcases h1.2 with h2 | h2
      · rw [← h2]; exact hle
      · exact reach_listed hc fuel e.on h2 hle
theorem reach_not_ready {listed : Array Bool} {i d fuel : Nat} (hc : LClosed md ops listed) (hr : reachB md ops i fuel d = true) (hun : listed.getD i true = false) : d ∉ Region.ready md ops listed := by
  intro hd
  obtain ⟨_, o, ho, hall⟩ := mem_ready.1 hd
  have hi : listed.getD i false = true := by
    cases fuel with
    | zero => simp [reachB] at hr
    | succ n =>
      unfold reachB at hr
      rw [ho] at hr
      obtain ⟨e, he, h1⟩ := Array.any_eq_true'.1 hr
      simp only [Bool.and_eq_true, Bool.or_eq_true, beq_iff_eq] at h1
      have hle := hall e he h1.1
      rcases h1.2 with h2 | h2
      · rw [← h2]; exact hle
      · exact reach_listed hc n e.on h2 hle
  rcases Nat.lt_or_ge i listed.size with h' | h'
  · simp [h'] at hun hi
    rw [hun] at hi
    cases hi
  · simp [Array.getElem?_eq_none h'] at hun

/-- Whatever order is picked from here on, in whatever world that has grown out of w; behind every operation but those of ds the world has only grown. -/
def wpK (P : Program) (md : Region.Mode) (ops : Array Oper) (Q : Exit → Act → World → Prop) (ds : List Nat) : Nat → Array Bool → Act → World → Prop
  | 0, l, a, w => ∀ w1, Gr w w1 → Region.ready md ops l = [] ∧ Q .normal a w1
  | fuel + 1, l, a, w => ∀ w1, Gr w w1 → (Region.ready md ops l = [] → Q .normal a w1) ∧
    ∀ i ∈ Region.ready md ops l, wpOp P ops Q i (fun a' w' => (i ∉ ds → Gr w1 w') ∧ wpK P md ops Q ds fuel (l.setIfInBounds i true) a' w') a w1
theorem wpK.up : ∀ {fuel : Nat} {l : Array Bool} {a : Act} {w w1 : World}, wpK P md ops Q ds fuel l a w → Gr w w1 → wpK P md ops Q ds fuel l a w1
  | 0, _, _, _, _, h, hg => fun w2 h2 => h w2 (hg.trans h2)
  | _ + 1, _, _, _, _, h, hg => fun w2 h2 => h w2 (hg.trans h2)
theorem wpAny_of_K : ∀ (fuel : Nat) (l : Array Bool) (a : Act) (w : World), wpK P md ops Q ds fuel l a w → wpAny P md ops Q fuel l a w
  | 0, _, _, w, h => h w (.refl w)
  | fuel + 1, _, _, w, h => ⟨(h w (.refl w)).1, fun i hi => wpOp_mono (fun a' w' h' => wpAny_of_K fuel _ a' w' h'.2) ((h w (.refl w)).2 i hi)⟩

theorem wpK_first {i : Nat} {oi : Oper} {v : Value} (hi : ops[i]? = some oi) (hsel : ∀ (j : Nat) (o : Oper) cs b, ops[j]? = some o → o.op ≠ .select cs b)
    (hQ : ∀ c a w, Q (.panic c) (a.put oi.dst v) w → Q (.panic c) a w) (n : Nat) :
    ∀ (fuel : Nat) (listed : Array Bool) (a : Act) (w : World),
      (∀ j oj, ops[j]? = some oj → j ≠ i → listed.getD j true = false → (∀ e ∈ oj.after, Region.binds md e = true → e.on ≠ i) → oi.apart ops oj = true) →
      LClosed md ops listed → (∀ d ∈ ds, listed.getD d true = false → reachB md ops i n d = true) →
      i ∈ Region.ready md ops listed → YG P ops oi v a w →
      wpK P md ops Q ds fuel (listed.setIfInBounds i true) (a.put oi.dst v) w → wpK P md ops Q ds (fuel + 1) listed a w := by
  intro fuel
  induction fuel with
  | zero =>
    intro listed a w _ _ _ hr hy H w1 hg
    refine ⟨fun h => (by rw [h] at hr; cases hr), fun j hj => ?_⟩
    by_cases hji : j = i
    · subst hji; exact (hy.up hg).wpOp hi (fun w' hg' => ⟨fun _ => hg', H.up (hg.trans hg')⟩)
    · have := ready_mono hj hji
      rw [(H w1 hg).1] at this
      cases this
  | succ fuel ih =>
    intro listed a w hfree hc hd hr hy H w1 hg
    refine ⟨fun h => (by rw [h] at hr; cases hr), fun j hj => ?_⟩
    by_cases hji : j = i
    · subst hji; exact (hy.up hg).wpOp hi (fun w' hg' => ⟨fun _ => hg', H.up (hg.trans hg')⟩)
    · have h1 := (H w1 hg).2 j (ready_mono hj hji)
      obtain ⟨hjun, oj, hoj, hall⟩ := mem_ready.1 hj
      have hiun := (mem_ready.1 hr).1
      have hnot : ∀ e ∈ oj.after, Region.binds md e = true → e.on ≠ i := fun e he hb heq => by
        have h1 := hall e he hb
        rw [heq] at h1
        rcases Nat.lt_or_ge i listed.size with h' | h'
        · simp [h'] at hiun h1; rw [hiun] at h1; cases h1
        · simp [Array.getElem?_eq_none h'] at h1
      have hjd : j ∉ ds := fun hm => reach_not_ready hc (hd j hm hjun) hiun hj
      have h2 := wpOp_putG hoj (hfree j oj hoj hji hjun hnot) (fun cs b => hsel i oi cs b hi) (fun cs b => hsel j oj cs b hoj) hQ h1
      have hfree' : ∀ k ok, ops[k]? = some ok → k ≠ i → (listed.setIfInBounds j true).getD k true = false →
          (∀ e ∈ ok.after, Region.binds md e = true → e.on ≠ i) → oi.apart ops ok = true := fun k ok hk hki hun hno => by
        refine hfree k ok hk hki ?_ hno
        by_cases hjk : j = k
        · subst hjk; exact hjun
        · rw [getD_set_ne true hjk] at hun; exact hun
      have hd' : ∀ d ∈ ds, (listed.setIfInBounds j true).getD d true = false → reachB md ops i n d = true := fun d hm hun => by
        refine hd d hm ?_
        by_cases hjk : j = d
        · subst hjk; exact hjun
        · rw [getD_set_ne true hjk] at hun; exact hun
      refine wpOp_mono (fun a' w' h3 => ⟨h3.2.1, ih (listed.setIfInBounds j true) a' w' hfree' (hc.set hj) hd' (ready_mono hr (Ne.symm hji)) ((hy.up (hg.trans (h3.2.1 hjd))).of_same h3.1.1 h3.1.2) ?_⟩) h2
      rw [Array.setIfInBounds_comm _ _ hji]
      exact h3.2.2

/-- What yields in every world whatsoever is taken first wherever it may come up, behind a store too. -/
theorem wpK_any {i : Nat} {oi : Oper} {v : Value} (hi : ops[i]? = some oi) (hsel : ∀ (j : Nat) (o : Oper) cs b, ops[j]? = some o → o.op ≠ .select cs b)
    (hQ : ∀ c a w, Q (.panic c) (a.put oi.dst v) w → Q (.panic c) a w) :
    ∀ (fuel : Nat) (listed : Array Bool) (a : Act) (w : World),
      (∀ j oj, ops[j]? = some oj → j ≠ i → listed.getD j true = false → (∀ e ∈ oj.after, Region.binds md e = true → e.on ≠ i) → oi.apart ops oj = true) →
      i ∈ Region.ready md ops listed → Yields P ops oi v a →
      wpK P md ops Q ds fuel (listed.setIfInBounds i true) (a.put oi.dst v) w → wpK P md ops Q ds (fuel + 1) listed a w := by
  have HY : ∀ a w, Yields P ops oi v a → YG P ops oi v a w := fun a w hy => hy.imp (fun h => ⟨h.1, fun w1 _ => by rw [h.2 w1]; exact ⟨rfl, .refl _⟩⟩) id
  intro fuel
  induction fuel with
  | zero =>
    intro listed a w _ hr hy H w1 hg
    refine ⟨fun h => (by rw [h] at hr; cases hr), fun j hj => ?_⟩
    by_cases hji : j = i
    · subst hji; exact (HY a w1 hy).wpOp hi (fun w' hg' => ⟨fun _ => hg', H.up (hg.trans hg')⟩)
    · have := ready_mono hj hji
      rw [(H w1 hg).1] at this
      cases this
  | succ fuel ih =>
    intro listed a w hfree hr hy H w1 hg
    refine ⟨fun h => (by rw [h] at hr; cases hr), fun j hj => ?_⟩
    by_cases hji : j = i
    · subst hji; exact (HY a w1 hy).wpOp hi (fun w' hg' => ⟨fun _ => hg', H.up (hg.trans hg')⟩)
    · have h1 := (H w1 hg).2 j (ready_mono hj hji)
      obtain ⟨hjun, oj, hoj, hall⟩ := mem_ready.1 hj
      have hiun := (mem_ready.1 hr).1
      have hnot : ∀ e ∈ oj.after, Region.binds md e = true → e.on ≠ i := fun e he hb heq => by
        have h1 := hall e he hb
        rw [heq] at h1
        rcases Nat.lt_or_ge i listed.size with h' | h'
        · simp [h'] at hiun h1; rw [hiun] at h1; cases h1
        · simp [Array.getElem?_eq_none h'] at h1
      have h2 := wpOp_putG hoj (hfree j oj hoj hji hjun hnot) (fun cs b => hsel i oi cs b hi) (fun cs b => hsel j oj cs b hoj) hQ h1
      have hfree' : ∀ k ok, ops[k]? = some ok → k ≠ i → (listed.setIfInBounds j true).getD k true = false →
          (∀ e ∈ ok.after, Region.binds md e = true → e.on ≠ i) → oi.apart ops ok = true := fun k ok hk hki hun hno => by
        refine hfree k ok hk hki ?_ hno
        by_cases hjk : j = k
        · subst hjk; exact hjun
        · rw [getD_set_ne true hjk] at hun; exact hun
      refine wpOp_mono (fun a' w' h3 => ⟨h3.2.1, ih (listed.setIfInBounds j true) a' w' hfree' (ready_mono hr (Ne.symm hji)) (hy.of_same h3.1.1 h3.1.2) ?_⟩) h2
      rw [Array.setIfInBounds_comm _ _ hji]
      exact h3.2.2

/-! ### the steps, what has come up written out -/
theorem kstart {id n : Nat} {a : Act} {w : World} (l : Array Bool) (hm : P.follows .mixedOrders = true) (hn : ops.size = n) (hl : Array.replicate n false = l)
    (h : wpK P .any ops Q ds n l a w) : (Code.region id ops true).wp P Q a w := by
  subst hn
  subst hl
  exact wp_region_any hm (wpAny_of_K _ _ _ _ (h.up ((Gr.refl w).drew)))
def ktakeB (md : Region.Mode) (ops : Array Oper) (ds : List Nat) (l l' : Array Bool) (i : Nat) : Bool :=
  Region.noSelect ops && Region.free md ops l i && (Region.ready md ops l).contains i && closedB md ops l && lastB md ops l ds i && (l.setIfInBounds i true == l')
theorem ktake {i : Nat} {N : Option Tmp} {oi : Oper} {v : Value} {fuel : Nat} {l : Array Bool} {a : Act} {w : World} (l' : Array Bool) (hi : ops[i]? = some oi) (hN : oi.dst = N) (hc : ktakeB md ops ds l l' i = true)
    (hQ : ∀ c a w, Q (.panic c) (a.put oi.dst v) w → Q (.panic c) a w) (hy : YG P ops oi v a w) {a' : Act} (ha : a.put N v = a')
    (h : wpK P md ops Q ds fuel l' a' w) : wpK P md ops Q ds (fuel + 1) l a w := by
  subst ha
  subst hN
  simp only [ktakeB, Bool.and_eq_true, beq_iff_eq] at hc
  obtain ⟨⟨⟨⟨⟨h1, h2⟩, h3⟩, h4⟩, h5⟩, h6⟩ := hc
  subst h6
  exact wpK_first hi (Region.noSelect_spec h1) hQ ops.size fuel l a w (Region.free_spec hi h2) (closedB_spec h4)
    (fun d hm hun => by have := List.all_eq_true.1 h5 d hm; rw [hun] at this; simpa using this) (by simpa using h3) hy h
def kanyB (md : Region.Mode) (ops : Array Oper) (l l' : Array Bool) (i : Nat) : Bool :=
  Region.noSelect ops && Region.free md ops l i && (Region.ready md ops l).contains i && (l.setIfInBounds i true == l')
theorem kpure {i : Nat} {N : Option Tmp} {oi : Oper} {v : Value} {fuel : Nat} {l : Array Bool} {a : Act} {w : World} (l' : Array Bool) (hi : ops[i]? = some oi) (hN : oi.dst = N) (hc : kanyB md ops l l' i = true)
    (hQ : ∀ c a w, Q (.panic c) (a.put oi.dst v) w → Q (.panic c) a w) (hy : Yields P ops oi v a) {a' : Act} (ha : a.put N v = a')
    (h : wpK P md ops Q ds fuel l' a' w) : wpK P md ops Q ds (fuel + 1) l a w := by
  subst ha
  subst hN
  simp only [kanyB, Bool.and_eq_true, beq_iff_eq] at hc
  obtain ⟨⟨⟨h1, h2⟩, h3⟩, h6⟩ := hc
  subst h6
  exact wpK_any hi (Region.noSelect_spec h1) hQ fuel l a w (Region.free_spec hi h2) (by simpa using h3) hy h
def kreadyB (md : Region.Mode) (ops : Array Oper) (l l' : Array Bool) (i : Nat) : Bool := (Region.ready md ops l == [i]) && (l.setIfInBounds i true == l')
/-- One operation alone may come up now: it is run, in a world that has grown; of those of ds nothing is to be shown behind it. -/
theorem kone {i : Nat} {N : Option Tmp} {oi : Oper} {fuel : Nat} {l : Array Bool} {a : Act} {w : World} (l' : Array Bool) (hi : ops[i]? = some oi) (hN : oi.dst = N) (hc : kreadyB md ops l l' i = true)
    (h : ∀ w1, Gr w w1 → ∀ K : Act → World → Prop, (∀ a' w', (i ∉ ds → Gr w1 w') → wpK P md ops Q ds fuel l' a' w' → K a' w') → if Region.wanted oi (yielded ops a.tmps) = true then Oper.wp P oi a w1 K Q else K (a.put N undef) w1) :
    wpK P md ops Q ds (fuel + 1) l a w := by
  subst hN
  simp only [kreadyB, Bool.and_eq_true, beq_iff_eq] at hc
  obtain ⟨h1, h2⟩ := hc
  subst h2
  intro w1 hg
  refine ⟨fun h0 => (by rw [h1] at h0; cases h0), fun j hj => ?_⟩
  rw [h1] at hj
  obtain rfl := List.mem_singleton.1 hj
  exact wpOp_step hi (fun K' hK => h w1 hg K' (fun a' w' h2 h3 => hK a' w' ⟨h2, h3⟩))
theorem kdone {l : Array Bool} {a : Act} {w : World} {n : Nat} (hr : (Region.ready md ops l == []) = true) (h : ∀ w1, Gr w w1 → Q .normal a w1) : wpK P md ops Q ds n l a w := by
  have hr : Region.ready md ops l = [] := by simpa using hr
  cases n with
  | zero => exact fun w1 hg => ⟨hr, h w1 hg⟩
  | succ n => exact fun w1 hg => ⟨fun _ => h w1 hg, by rw [hr]; simp⟩
end

/-! ### the blocks of the call's own -/
/-- What lies in memory that the call made (behind w0): blocks, each with its contents. -/
structure Own (w0 : World) (L : List (Nat × Obj)) (w : World) : Prop where
  below : Below w0.heap.size w0 w
  mem : ∀ p ∈ L, w.heap[p.1]? = some p.2 ∧ w0.heap.size ≤ p.1
  nd : (L.map (·.1)).Nodup
theorem Own.start (w : World) : Own w [] w := ⟨Below.refl _ _, by simp, by simp⟩
theorem Own.up {w0 w w1 : World} {L : List (Nat × Obj)} (h : Own w0 L w) (hg : Gr w w1) : Own w0 L w1 :=
  ⟨h.below.trans (Below.mono hg h.below.size), fun p hp => by
    have := h.mem p hp
    exact ⟨(hg.block p.1 ((Array.getElem?_eq_some_iff.1 this.1).1)).trans this.1, this.2⟩, h.nd⟩
theorem Own.drew {w0 w : World} {L : List (Nat × Obj)} (h : Own w0 L w) : Own w0 L w.drew := ⟨h.below.drew, h.mem, h.nd⟩
theorem Own.drewN {w0 w : World} {L : List (Nat × Obj)} (h : Own w0 L w) (n : Nat) : Own w0 L (w.drewN n) :=
  ⟨⟨h.below.os, h.below.tape, h.below.output, h.below.size, h.below.block⟩, h.mem, h.nd⟩
theorem Own.blk {w0 w : World} {L : List (Nat × Obj)} (h : Own w0 L w) (k : Nat) {g : Nat} {o : Obj} (hk : L[k]? = some (g, o)) : w.heap[g]? = some o := (h.mem _ (List.mem_of_getElem? hk)).1
theorem Own.lt {w0 w : World} {L : List (Nat × Obj)} (h : Own w0 L w) (k : Nat) {g : Nat} {o : Obj} (hk : L[k]? = some (g, o)) : g < w.heap.size := (Array.getElem?_eq_some_iff.1 (h.blk k hk)).1
theorem Own.ge {w0 w : World} {L : List (Nat × Obj)} (h : Own w0 L w) (k : Nat) {g : Nat} {o : Obj} (hk : L[k]? = some (g, o)) : w0.heap.size ≤ g := (h.mem _ (List.mem_of_getElem? hk)).2
theorem Own.cell {w0 w : World} {L : List (Nat × Obj)} (h : Own w0 L w) (k : Nat) {g : Nat} {cs : Array Value} {t : TypeId} (hk : L[k]? = some (g, .cells cs t (0, 0))) (j : Nat) : w.cell? ⟨g, j, none⟩ = cs[j]? := by
  have := h.blk k hk
  simp [World.cell?, this]
theorem Own.frozen {w0 w : World} {L : List (Nat × Obj)} (h : Own w0 L w) (k : Nat) {g : Nat} {cs : Array Value} {t : TypeId} (hk : L[k]? = some (g, .cells cs t (0, 0))) (j : Nat) : w.frozen? ⟨g, j, none⟩ = false := by
  have := h.blk k hk
  simp [World.frozen?, this]
theorem Own.alloc {w0 w : World} {L : List (Nat × Obj)} (h : Own w0 L w) (o : Obj) : Own w0 ((w.heap.size, o) :: L) (w.alloc o) :=
  ⟨h.below.alloc h.below.size o, fun p hp => by
    rcases List.mem_cons.1 hp with rfl | hp
    · exact ⟨by show (w.heap.push o)[w.heap.size]? = _; simp, h.below.size⟩
    · have := h.mem p hp
      exact ⟨(Below.heap_alloc w o p.1 ((Array.getElem?_eq_some_iff.1 this.1).1)).trans this.1, this.2⟩,
   by
    simp only [List.map_cons, List.nodup_cons]
    refine ⟨fun hm => ?_, h.nd⟩
    obtain ⟨p, hp, he⟩ := List.mem_map.1 hm
    have := (Array.getElem?_eq_some_iff.1 (h.mem p hp).1).1
    omega⟩
theorem Own.alloc' {w0 w : World} {L : List (Nat × Obj)} (h : Own w0 L w) (o : Obj) {g : Nat} (hg : w.heap.size = g) : Own w0 ((g, o) :: L) (w.alloc o) := hg ▸ h.alloc o
/-- A block that is known to lie behind w0 and to be another one is taken up. -/
theorem Own.take {w0 w : World} {L : List (Nat × Obj)} (h : Own w0 L w) {g : Nat} {o : Obj} (hb : w.heap[g]? = some o) (hge : w0.heap.size ≤ g) (hne : g ∉ L.map (·.1)) : Own w0 ((g, o) :: L) w :=
  ⟨h.below, fun p hp => by
    rcases List.mem_cons.1 hp with rfl | hp
    · exact ⟨hb, hge⟩
    · exact h.mem p hp, List.nodup_cons.2 ⟨hne, h.nd⟩⟩
theorem Own.drop {w0 w : World} {L : List (Nat × Obj)} (h : Own w0 L w) (L' : List (Nat × Obj)) (hs : L'.Sublist L) : Own w0 L' w :=
  ⟨h.below, fun p hp => h.mem p (hs.subset hp), (hs.map _).nodup h.nd⟩
theorem nodup_get {α : Type} {l : List α} (h : l.Nodup) {i j : Nat} {x : α} (hi : l[i]? = some x) (hj : l[j]? = some x) : i = j := by
  obtain ⟨h1, e1⟩ := List.getElem?_eq_some_iff.1 hi
  obtain ⟨h2, e2⟩ := List.getElem?_eq_some_iff.1 hj
  exact (List.getElem_inj h).1 (e1.trans e2.symm)
theorem Own.modify {w0 w : World} {L : List (Nat × Obj)} (h : Own w0 L w) (k : Nat) {g : Nat} {o o' : Obj} (hk : L[k]? = some (g, o)) {w1 : World}
    (hs : w1.heap.size = w.heap.size) (hos : w1.os = w.os) (htp : w1.tape = w.tape) (hou : w1.output = w.output) (hb : w1.heap[g]? = some o') (hne : ∀ i, i ≠ g → w1.heap[i]? = w.heap[i]?) : Own w0 (L.set k (g, o')) w1 := by
  have hge := h.ge k hk
  refine ⟨h.below.trans ⟨hos, htp, hou, by omega, fun i hi => hne i (by omega)⟩, fun p hp => ?_, ?_⟩
  · obtain ⟨i, hi⟩ := List.getElem?_of_mem hp
    rw [List.getElem?_set] at hi
    split at hi
    · split at hi
      · obtain rfl := Option.some.inj hi
        exact ⟨hb, hge⟩
      · cases hi
    · rename_i hik
      have hpm := h.mem p (List.mem_of_getElem? hi)
      refine ⟨(hne p.1 (fun he => hik ?_)).trans hpm.1, hpm.2⟩
      refine nodup_get h.nd (x := g) (by rw [List.getElem?_map, hk]; rfl) (by rw [List.getElem?_map, hi]; exact congrArg some he)
  · have : (L.set k (g, o')).map (·.1) = L.map (·.1) := by
      rw [List.map_set]
      refine List.ext_getElem? (fun i => ?_)
      rw [List.getElem?_set]
      split
      · rename_i hki
        subst hki
        rw [List.getElem?_map, hk]
        have := (List.getElem?_eq_some_iff.1 hk).1
        simp [this]
      · rfl
    rw [this]
    exact h.nd
theorem Own.set {w0 w : World} {L : List (Nat × Obj)} (h : Own w0 L w) (k : Nat) {g : Nat} {cs : Array Value} {t : TypeId} {fr : Nat × Nat} (hk : L[k]? = some (g, .cells cs t fr)) (j : Nat) (v : Value) :
    Own w0 (L.set k (g, .cells (cs.setIfInBounds j v) t fr)) (w.setCell ⟨g, j, none⟩ v) :=
  h.modify k hk (by simp [World.setCell]) rfl rfl rfl (by simp [World.setCell, Array.getElem?_modify, h.blk k hk]) (fun i hi => Below.heap_setCell w _ _ _ hi)
/-- The same, what comes out written out. -/
theorem Own.set' {w0 w : World} {L L' : List (Nat × Obj)} (h : Own w0 L w) (k : Nat) {g : Nat} {cs : Array Value} {t : TypeId} {fr : Nat × Nat} (hk : L[k]? = some (g, .cells cs t fr)) (j : Nat) (v : Value)
    (hL : L.set k (g, .cells (cs.setIfInBounds j v) t fr) = L') : Own w0 L' (w.setCell ⟨g, j, none⟩ v) := hL ▸ h.set k hk j v

section
variable {P : Program}
theorem RunG_value {oi : Oper} {a : Act} {w : World} {v : Value} (h : (execOp a.eval oi).run P w = .ok (.value v) w) : RunG P w v ((execOp a.eval oi).run P w) := by rw [h]; exact ⟨rfl, .refl _⟩
theorem callFunc_enters {f : FuncId} {fn : Func} (hf : P.funcs[f]? = some fn) (hname : (fn.name == "runtime.NumGoroutine") = false) (hb : fn.body.isSome = true) (args : Array Value) (w : World) : (callFunc f args).run P w = .ok (.enter f args) w := by
  have h1 : fn.name ≠ "runtime.NumGoroutine" := by simpa using hname
  obtain ⟨c, hc⟩ := Option.isSome_iff_exists.1 hb
  simp [callFunc, hf, h1, hc]
theorem RunG_call {oi : Oper} {a : Act} {w : World} {v : Value} {f : FuncId} {fn : Func} {asL : List Operand} {ts : Array TypeId} (hf : P.funcs[f]? = some fn) (hname : (fn.name == "runtime.NumGoroutine") = false) (hb : fn.body.isSome = true) (al : List Value)
    (hop : oi.op = .call { callee := .value (.func f), args := asL.toArray, argTypes := ts }) (hargs : asL.map a.eval = al)
    (h : Calls P f al.toArray w fun e w'' => e = .returned v ∧ Below w.heap.size w w'') : RunG P w v ((execOp a.eval oi).run P w) := by
  have he := callFunc_enters hf hname hb al.toArray w
  have : (execOp a.eval oi).run P w = .ok (.enter f al.toArray) w := by
    unfold execOp
    simp [hop, resolve, Deferred.ofValue, invoke, Act.eval]
    rw [show (List.map (Act.eval a) asL) = al from hargs, he]
  rw [this]
  exact ⟨.refl _, h⟩
end
end Go.Proofs.Ytfghjahmnjghgaa

/-! Two or three operations may come up: each of them is shown. -/
namespace Go.Proofs.Ytfghjahmnjghgaa
open Go.RowKit
/-- A code that only goes on. -/
def OnlyN (M : Act → World → Prop) : Exit → Act → World → Prop
  | .normal, a, w => M a w
  | _, _, _ => False
theorem not_lets (M : Act → World → Prop) : ¬ LetsOut (OnlyN M) := fun ⟨_, _, h⟩ => h
theorem wp_cut {P : Program} {c : Code} {Q : Exit → Act → World → Prop} {a : Act} {w : World} (M : Act → World → Prop) (h : c.wp P (OnlyN M) a w) (hq : ∀ a w, M a w → Q .normal a w) : c.wp P Q a w :=
  wp_mono h fun e a w h => by cases e <;> first | exact hq _ _ h | exact h.elim
structure Shut (p : Prop) : Prop where
  out : p
/-- The same, what is to be shown out of sight. -/
theorem wp_cutS {P : Program} {c : Code} {Q : Exit → Act → World → Prop} {a : Act} {w : World} (M : Act → World → Prop) (h : ∀ M' : Act → World → Prop, Shut (∀ a w, M a w → M' a w) → c.wp P (OnlyN M') a w) (hq : ∀ a w, M a w → Q .normal a w) : c.wp P Q a w :=
  wp_cut M (h M ⟨fun _ _ h => h⟩) hq
section
variable {P : Program} {ops : Array Oper} {Q : Exit → Act → World → Prop} {md : Region.Mode} {ds : List Nat}
/-- Operation i is run, in a world that has grown. -/
def KRun (P : Program) (md : Region.Mode) (ops : Array Oper) (Q : Exit → Act → World → Prop) (ds : List Nat) (fuel : Nat) (i : Nat) (N : Option Tmp) (oi : Oper) (l' : Array Bool) (a : Act) (w : World) : Prop :=
  ∀ w1, Gr w w1 → ∀ K : Act → World → Prop, (∀ a' w', (i ∉ ds → Gr w1 w') → wpK P md ops Q ds fuel l' a' w' → K a' w') → if Region.wanted oi (yielded ops a.tmps) = true then Oper.wp P oi a w1 K Q else K (a.put N undef) w1
theorem kmany {fuel : Nat} {l : Array Bool} {a : Act} {w : World} {r : List Nat} (hr : Region.ready md ops l = r) (hne : r ≠ [])
    (h : ∀ i ∈ r, ∃ oi, ops[i]? = some oi ∧ KRun P md ops Q ds fuel i oi.dst oi (l.setIfInBounds i true) a w) : wpK P md ops Q ds (fuel + 1) l a w := by
  intro w1 hg
  refine ⟨fun h0 => absurd (hr.symm.trans h0) hne, fun j hj => ?_⟩
  rw [hr] at hj
  obtain ⟨oi, hi, h⟩ := h j hj
  exact wpOp_step hi (fun K' hK => h w1 hg K' (fun a' w' h2 h3 => hK a' w' ⟨h2, h3⟩))
theorem ktwo {i j : Nat} {N M : Option Tmp} {oi oj : Oper} {fuel : Nat} {l : Array Bool} {a : Act} {w : World} (li lj : Array Bool)
    (hi : ops[i]? = some oi) (hj : ops[j]? = some oj) (hN : oi.dst = N) (hM : oj.dst = M)
    (hc : ((Region.ready md ops l == [i, j]) && (l.setIfInBounds i true == li) && (l.setIfInBounds j true == lj)) = true)
    (h1 : KRun P md ops Q ds fuel i N oi li a w) (h2 : KRun P md ops Q ds fuel j M oj lj a w) : wpK P md ops Q ds (fuel + 1) l a w := by
  subst hN hM
  simp only [Bool.and_eq_true, beq_iff_eq] at hc
  obtain ⟨⟨hr, rfl⟩, rfl⟩ := hc
  refine kmany hr (by simp) fun k hk => ?_
  simp only [List.mem_cons, List.not_mem_nil, or_false] at hk
  rcases hk with rfl | rfl
  · exact ⟨_, hi, h1⟩
  · exact ⟨_, hj, h2⟩
theorem kthree {i j k : Nat} {N M O : Option Tmp} {oi oj ok : Oper} {fuel : Nat} {l : Array Bool} {a : Act} {w : World} (li lj lk : Array Bool)
    (hi : ops[i]? = some oi) (hj : ops[j]? = some oj) (hk : ops[k]? = some ok) (hN : oi.dst = N) (hM : oj.dst = M) (hO : ok.dst = O)
    (hc : ((Region.ready md ops l == [i, j, k]) && (l.setIfInBounds i true == li) && (l.setIfInBounds j true == lj) && (l.setIfInBounds k true == lk)) = true)
    (h1 : KRun P md ops Q ds fuel i N oi li a w) (h2 : KRun P md ops Q ds fuel j M oj lj a w) (h3 : KRun P md ops Q ds fuel k O ok lk a w) : wpK P md ops Q ds (fuel + 1) l a w := by
  subst hN hM hO
  simp only [Bool.and_eq_true, beq_iff_eq] at hc
  obtain ⟨⟨⟨hr, rfl⟩, rfl⟩, rfl⟩ := hc
  refine kmany hr (by simp) fun m hm => ?_
  simp only [List.mem_cons, List.not_mem_nil, or_false] at hm
  rcases hm with rfl | rfl | rfl
  · exact ⟨_, hi, h1⟩
  · exact ⟨_, hj, h2⟩
  · exact ⟨_, hk, h3⟩
end
end Go.Proofs.Ytfghjahmnjghgaa

/-! Operations of a region that draws its order, taken in one order. Blocks below B stay as they are, whatever is stored. -/
namespace Go.Proofs.Ytfghjahmnjghgaa
open Go.RowKit
theorem kw64 (n : Int) : IntKind.i64.wrap n = Go.RowKit.wrap64 n := by unfold Go.RowKit.wrap64; exact IntKind.wrap_i64 n
theorem kw32 (n : Int) : IntKind.i32.wrap n = Go.RowKit.wrap32 n := by unfold Go.RowKit.wrap32; exact IntKind.wrap_i32 n
section
variable {P : Program} {ops : Array Oper} {Q : Exit → Act → World → Prop} {md : Region.Mode} {ds : List Nat} {B : Nat}
/-- an allocation that may wait: its number, its slot, its type, its cells -/
abbrev DIt := Nat × Tmp × TypeId × Array Value
def inD (D : List DIt) (i : Nat) : Prop := ∃ d ∈ D, d.1 = i
def ptrV (g : Nat) : Value := .pointer (some ⟨g, 0, none⟩)
/-- the first of them that has not come up -/
def firstU (D : List DIt) (l : Array Bool) : Option DIt := D.find? (fun x => !l.getD x.1 true)
/-- Whatever order is picked from here on; behind every operation but those of ds the world has only grown; what lies below B stays; allocations of D wait until nothing else may come up, and then give any new block. -/
def wpB (P : Program) (md : Region.Mode) (ops : Array Oper) (Q : Exit → Act → World → Prop) (ds : List Nat) (B : Nat) (D : List DIt) (Lt : List Nat) : Nat → Array Bool → Act → World → Prop
  | 0, l, a, w => ∀ w1, Gr w w1 → Region.ready md ops l = [] ∧ Q .normal a w1
  | fuel + 1, l, a, w => ∀ w1, Gr w w1 → (Region.ready md ops l = [] → Q .normal a w1) ∧
    (∀ i ∈ Region.ready md ops l, ¬ inD D i → wpOp P ops Q i (fun a' w' => ((i ∉ ds → Gr w1 w') ∧ Below B w1 w') ∧ wpB P md ops Q ds B D Lt fuel (l.setIfInBounds i true) a' w') a w1) ∧
    (∀ d ∈ D, firstU D l = some d → (∀ j ∈ Region.ready md ops l, inD D j ∨ j ∈ Lt) → ∀ g, B ≤ g → w1.heap[g]? = some (.cells d.2.2.2 d.2.2.1 (0, 0)) → wpB P md ops Q ds B D Lt fuel (l.setIfInBounds d.1 true) (a.put (some d.2.1) (ptrV g)) w1)
variable {D : List DIt} {Lt : List Nat}
theorem wpB.up : ∀ {fuel : Nat} {l : Array Bool} {a : Act} {w w1 : World}, wpB P md ops Q ds B D Lt fuel l a w → Gr w w1 → wpB P md ops Q ds B D Lt fuel l a w1
  | 0, _, _, _, _, h, hg => fun w2 h2 => h w2 (hg.trans h2)
  | _ + 1, _, _, _, _, h, hg => fun w2 h2 => h w2 (hg.trans h2)
/-! ### allocations that come up early -/
def markE (l : Array Bool) : List (DIt × Nat) → Array Bool
  | [] => l
  | e :: E => (markE l E).setIfInBounds e.1.1 true
def putE (a : Act) : List (DIt × Nat) → Act
  | [] => a
  | e :: E => (putE a E).put (some e.1.2.1) (ptrV e.2)
theorem markE_set (l : Array Bool) (i : Nat) : ∀ E : List (DIt × Nat), (∀ e ∈ E, e.1.1 ≠ i) → markE (l.setIfInBounds i true) E = (markE l E).setIfInBounds i true
  | [], _ => rfl
  | e :: E, h => by
    show (markE _ E).setIfInBounds _ _ = ((markE l E).setIfInBounds _ _).setIfInBounds _ _
    rw [markE_set l i E (fun x hx => h x (List.mem_cons_of_mem _ hx)), Array.setIfInBounds_comm _ _ (Ne.symm (h e List.mem_cons_self))]
theorem putE_put (a : Act) (t : Tmp) (v : Value) : ∀ E : List (DIt × Nat), (∀ e ∈ E, e.1.2.1 ≠ t) → putE (a.put (some t) v) E = (putE a E).put (some t) v
  | [], _ => rfl
  | e :: E, h => by
    show (putE _ E).put _ _ = ((putE a E).put _ _).put _ _
    rw [putE_put a t v E (fun x hx => h x (List.mem_cons_of_mem _ hx)), Act.put_comm _ _ _ (fun d hd he => h e List.mem_cons_self (by
      have h1 := Option.some.inj hd
      have h2 := Option.some.inj he
      rw [h2, h1]))]
theorem markE_get (l : Array Bool) (j : Nat) (d : Bool) : ∀ E : List (DIt × Nat), (∀ e ∈ E, e.1.1 ≠ j) → (markE l E).getD j d = l.getD j d
  | [], _ => rfl
  | e :: E, h => (getD_set_ne d (h e List.mem_cons_self)).trans (markE_get l j d E (fun x hx => h x (List.mem_cons_of_mem _ hx)))
theorem markE_true (l : Array Bool) (j : Nat) (h : l.getD j false = true) : ∀ E : List (DIt × Nat), (markE l E).getD j false = true
  | [] => h
  | _ :: E => getD_set_true (markE_true l j h E)
theorem getD_tf {l : Array Bool} {j : Nat} (h : l.getD j true = false) : l.getD j false = false := by
  rcases Nat.lt_or_ge j l.size with h' | h'
  · simp [h'] at h ⊢; exact h
  · simp [Array.getElem?_eq_none h'] at h
theorem markE_un (l : Array Bool) (j : Nat) : ∀ E : List (DIt × Nat), (markE l E).getD j true = false → l.getD j true = false ∧ ∀ e ∈ E, e.1.1 ≠ j
  | [], h => ⟨h, by simp⟩
  | e :: E, h => by
    have hne : e.1.1 ≠ j := fun he => by
      subst he
      have h2 : ((markE l E).setIfInBounds e.1.1 true).getD e.1.1 true = false := h
      rcases Nat.lt_or_ge e.1.1 (markE l E).size with h' | h'
      · simp [h'] at h2
      · simp at h2
    have h3 : ((markE l E).setIfInBounds e.1.1 true).getD j true = false := h
    rw [getD_set_ne true hne] at h3
    obtain ⟨h4, h5⟩ := markE_un l j E h3
    exact ⟨h4, fun x hx => by rcases List.mem_cons.1 hx with rfl | hx; exact hne; exact h5 x hx⟩
/-- one of them taken out -/
theorem pullE {hs : ∀ d ∈ D, ∀ d' ∈ D, d.1 ≠ d'.1 → d.2.1 ≠ d'.2.1} (l : Array Bool) (a : Act) (e : DIt × Nat) : ∀ E : List (DIt × Nat), e ∈ E → (E.map (·.1.1)).Nodup → (∀ x ∈ E, x.1 ∈ D) →
    ∃ E', E'.length + 1 = E.length ∧ (∀ x ∈ E', x ∈ E ∧ x.1.1 ≠ e.1.1) ∧ (E'.map (·.1.1)).Nodup ∧ markE l E = markE (l.setIfInBounds e.1.1 true) E' ∧ putE a E = putE (a.put (some e.1.2.1) (ptrV e.2)) E'
  | [], h, _, _ => by simp at h
  | x :: xs, h, hn, hd => by
    simp only [List.map_cons, List.nodup_cons] at hn
    rcases List.mem_cons.1 h with rfl | h
    · have hne : ∀ y ∈ xs, y.1.1 ≠ e.1.1 := fun y hy he => hn.1 (List.mem_map.2 ⟨y, hy, he⟩)
      refine ⟨xs, rfl, fun y hy => ⟨List.mem_cons_of_mem _ hy, hne y hy⟩, hn.2, (markE_set l _ xs hne).symm, (putE_put a _ _ xs (fun y hy => hs _ (hd y (List.mem_cons_of_mem _ hy)) _ (hd e List.mem_cons_self) (hne y hy))).symm⟩
    · obtain ⟨E', h1, h2, h3, h4, h5⟩ := pullE (hs := hs) l a e xs h hn.2 (fun y hy => hd y (List.mem_cons_of_mem _ hy))
      have hxe : x.1.1 ≠ e.1.1 := fun he => hn.1 (List.mem_map.2 ⟨e, h, he.symm⟩)
      refine ⟨x :: E', by simp [h1], fun y hy => ?_, ?_, ?_, ?_⟩
      · rcases List.mem_cons.1 hy with rfl | hy
        · exact ⟨List.mem_cons_self, hxe⟩
        · exact ⟨List.mem_cons_of_mem _ (h2 y hy).1, (h2 y hy).2⟩
      · simp only [List.map_cons, List.nodup_cons]
        exact ⟨fun hm => by
          obtain ⟨y, hy, he⟩ := List.mem_map.1 hm
          exact hn.1 (List.mem_map.2 ⟨y, (h2 y hy).1, he⟩), h3⟩
      · show (markE l xs).setIfInBounds _ _ = (markE _ E').setIfInBounds _ _
        rw [h4]
      · show (putE a xs).put _ _ = (putE _ E').put _ _
        rw [h5]
/-- what is put to a slot that has nothing to do with an operation may as well be put ahead -/
theorem wpOp_fwd {j : Nat} {oi oj : Oper} (v : Value) (hj : ops[j]? = some oj) (hap : oi.apart ops oj = true) (hsj : ∀ cs b, oj.op ≠ .select cs b)
    (hQ : ∀ c a w, Q (.panic c) a w → Q (.panic c) (a.put oi.dst v) w) {K : Act → World → Prop} {a : Act} {w : World}
    (h : wpOp P ops Q j K a w) : wpOp P ops Q j (fun a' w' => ∃ a0, a' = a0.put oi.dst v ∧ K a0 w') (a.put oi.dst v) w := by
  obtain ⟨h1, h2, h3⟩ := Oper.apart_spec hap
  unfold wpOp at *
  simp only [hj] at *
  rw [wanted_put oj a oi.dst v h1]
  split
  · rename_i hw
    simp only [hw, if_true] at h
    rcases h with h | ⟨hasks, hlets⟩
    case inr => exact .inr ⟨by unfold Oper.asks at *; rw [execOp_put oj hsj a oi.dst v h1]; exact hasks, hlets⟩
    refine .inl ?_
    unfold Oper.wp at *
    rw [execOp_put oj hsj a oi.dst v h1]
    generalize (execOp a.eval oj).run P w = r at *
    cases r with
    | ok n w' =>
      cases n <;> simp only [Oper.upon] at h ⊢
      case value u => exact ⟨_, Act.put_comm a v u h2, h⟩
      case skip => exact ⟨_, Act.put_comm a v undef h2, h⟩
      case defer d => exact ⟨_, by rw [← Act.put_comm _ v undef h2, Act.put_defers], h⟩
      case enter f args =>
        refine Calls.mono h fun e w'' he => ?_
        cases e with
        | returned u => exact ⟨_, Act.put_comm a v u h2, he⟩
        | panicked c => exact hQ _ _ _ he
        | outgrown => exact he
      case row row args => exact Rows.mono h fun u w'' he => ⟨_, Act.put_comm a v u h2, he⟩
    | halt x w' =>
      cases x <;> simp only [Oper.upon] at h ⊢
      case panic u => exact hQ _ _ _ h
  · rename_i hw
    simp only [hw] at h
    exact ⟨_, Act.put_comm a v undef h2, h⟩
theorem wpOp_fwdE (hsel : ∀ (j : Nat) (o : Oper) cs b, ops[j]? = some o → o.op ≠ .select cs b) (hQ : ∀ (t : Tmp) v c a w, Q (.panic c) a w → Q (.panic c) (Act.put a (some t) v) w) {j : Nat} {K : Act → World → Prop} {a : Act} {w : World} :
    ∀ E : List (DIt × Nat), (∀ e ∈ E, ∃ oi oj, ops[e.1.1]? = some oi ∧ ops[j]? = some oj ∧ oi.dst = some e.1.2.1 ∧ oi.apart ops oj = true) → wpOp P ops Q j K a w → wpOp P ops Q j (fun a' w' => ∃ a0, a' = putE a0 E ∧ K a0 w') (putE a E) w
  | [], _, h => wpOp_mono (fun a' w' h => ⟨a', rfl, h⟩) h
  | e :: E, hE, h => by
    have ih := wpOp_fwdE hsel hQ E (fun x hx => hE x (List.mem_cons_of_mem _ hx)) h
    obtain ⟨oi, oj, _, hj, hd, hap⟩ := hE e List.mem_cons_self
    have h2 := wpOp_fwd (ptrV e.2) hj hap (fun cs b => hsel j oj cs b hj) (fun c a w h => by rw [hd]; exact hQ _ _ _ _ _ h) ih
    rw [hd] at h2
    refine wpOp_mono (fun a' w' h => ?_) h2
    obtain ⟨a0, rfl, a1, rfl, hk⟩ := h
    exact ⟨a1, rfl, hk⟩
/-- what must hold of the allocations that wait -/
structure DOK (P : Program) (md : Region.Mode) (ops : Array Oper) (ds : List Nat) (D : List DIt) (Lt : List Nat) : Prop where
  sel : ∀ (j : Nat) (o : Oper) cs b, ops[j]? = some o → o.op ≠ .select cs b
  op : ∀ d ∈ D, ∃ o, ops[d.1]? = some o ∧ o.dst = some d.2.1 ∧ o.guard = none ∧ (∀ e ∈ o.after, Region.binds md e = false)
  run : ∀ d ∈ D, ∀ o, ops[d.1]? = some o → ∀ (ev : Operand → Value) w, (execOp ev o).run P w = .ok (.value (ptrV w.heap.size)) (w.alloc (.cells d.2.2.2 d.2.2.1))
  slot : ∀ d ∈ D, ∀ d' ∈ D, d.1 ≠ d'.1 → d.2.1 ≠ d'.2.1
  len : ∀ E : List (DIt × Nat), (E.map (·.1.1)).Nodup → (∀ x ∈ E, x.1 ∈ D) → E.length ≤ D.length
  uniq : ∀ d ∈ D, ∀ d' ∈ D, d.1 = d'.1 → d = d'
  apart : ∀ d ∈ D, ∀ j oj oi, ops[j]? = some oj → ops[d.1]? = some oi → j ≠ d.1 → (∀ e ∈ oj.after, Region.binds md e = true → e.on ≠ d.1) → oi.apart ops oj = true
  all : ∀ p o, ops[p]? = some o → ¬ inD D p → (∃ e ∈ o.after, Region.binds md e = true ∧ inD D e.on) → (∀ d ∈ D, reachB md ops d.1 ops.size p = true) ∧ ∀ q oq, ops[q]? = some oq → ¬ inD D q → q ∉ Lt → q ≠ p → reachB md ops q ops.size p = true ∨ reachB md ops p ops.size q = true
  st : ∀ p ∈ ds, ∀ d ∈ D, reachB md ops d.1 ops.size p = true
  lt : ∀ i ∈ Lt, ∀ r o, ops[r]? = some o → (∃ e ∈ o.after, Region.binds md e = true ∧ e.on = i) → ∀ d ∈ D, reachB md ops d.1 ops.size r = true
theorem wpOp_val {i : Nat} {o : Oper} {v : Value} {a : Act} {w w2 : World} {K : Act → World → Prop} (hi : ops[i]? = some o) (hw : Region.wanted o (yielded ops a.tmps) = true) (hr : (execOp a.eval o).run P w = .ok (.value v) w2) (h : K (a.put o.dst v) w2) : wpOp P ops Q i K a w := by
  unfold wpOp
  simp only [hi, hw, if_true]
  refine .inl ?_
  unfold Oper.wp
  rw [hr]
  exact h
theorem DOK.ready (hD : DOK P md ops ds D Lt) {d : DIt} (hd : d ∈ D) {l : Array Bool} (h : l.getD d.1 true = false) : d.1 ∈ Region.ready md ops l := by
  obtain ⟨o, ho, _, _, hn⟩ := hD.op d hd
  exact mem_ready.2 ⟨h, o, ho, fun e he hb => by rw [hn e he] at hb; cases hb⟩
theorem markE_closed (hD : DOK P md ops ds D Lt) (l : Array Bool) (hc : LClosed md ops l) : ∀ E : List (DIt × Nat), (∀ x ∈ E, x.1 ∈ D ∧ l.getD x.1.1 true = false) → (E.map (·.1.1)).Nodup → LClosed md ops (markE l E)
  | [], _, _ => hc
  | e :: E, h, hn => by
    simp only [List.map_cons, List.nodup_cons] at hn
    have hne : ∀ y ∈ E, y.1.1 ≠ e.1.1 := fun y hy he => hn.1 (List.mem_map.2 ⟨y, hy, he⟩)
    refine (markE_closed hD l hc E (fun x hx => h x (List.mem_cons_of_mem _ hx)) hn.2).set (hD.ready (h e List.mem_cons_self).1 ?_)
    rw [markE_get l _ _ E hne]
    exact (h e List.mem_cons_self).2
theorem markE_in {E : List (DIt × Nat)} (l : Array Bool) {j : Nat} (h1 : (markE l E).getD j false = true) (h2 : ¬ l.getD j false = true) : ∃ e ∈ E, e.1.1 = j := by
  by_cases h : ∃ e ∈ E, e.1.1 = j
  · exact h
  · rw [markE_get l j false E (fun e he hj => h ⟨e, he, hj⟩)] at h1
    exact absurd h1 h2
theorem gr_size {w w1 : World} (h : Gr w w1) (hB : B ≤ w.heap.size) : B ≤ w1.heap.size := by have := Below.size h; omega
theorem gr_bel {w w1 : World} (h : Gr w w1) (hB : B ≤ w.heap.size) : Below B w w1 := Below.mono h hB
theorem ready_un {l : Array Bool} {p : Nat} (h : p ∈ Region.ready md ops l) : l.getD p true = false := (mem_ready.1 h).1
theorem head_mem {l : List Nat} {i : Nat} (h : l.head? = some i) : i ∈ l := by cases l with
  | nil => simp at h
  | cons x xs => simp at h; subst h; exact List.mem_cons_self
/-- The allocations may come up early all the same. -/
theorem defer (hD : DOK P md ops ds D Lt) (hQ : ∀ (t : Tmp) v c a w, Q (.panic c) a w → Q (.panic c) (Act.put a (some t) v) w) : ∀ (n fr fs : Nat) (E : List (DIt × Nat)) (l : Array Bool) (a : Act) (w w' : World), fr + fs ≤ n → fs + D.length ≤ fr + E.length →
    wpB P md ops Q ds B D Lt fs l a w → Gr w w' → B ≤ w.heap.size → LClosed md ops l → (E.map (·.1.1)).Nodup →
    (∀ x ∈ E, (x.1 ∈ D ∧ l.getD x.1.1 true = false) ∧ B ≤ x.2 ∧ w'.heap[x.2]? = some (.cells x.1.2.2.2 x.1.2.2.1 (0, 0))) → wpAny P md ops Q fr (markE l E) (putE a E) w' := by
  intro n
  induction n with
  | zero =>
    intro fr fs E l a w w' hn hf h hg hB hc hnd hE
    obtain rfl : fr = 0 := by omega
    obtain rfl : fs = 0 := by omega
    obtain ⟨h1, h2⟩ := h w' hg
    cases E with
    | nil => exact ⟨h1, h2⟩
    | cons e E =>
      have := hD.ready (hE e List.mem_cons_self).1.1 (hE e List.mem_cons_self).1.2
      rw [h1] at this; cases this
  | succ n ih =>
    intro fr fs E l a w w' hn hf h hg hB hc hnd hE
    by_cases hA : ∃ e ∈ E, firstU D l = some e.1 ∧ ∀ j ∈ Region.ready md ops l, inD D j ∨ j ∈ Lt
    · obtain ⟨e, he, hh, hall⟩ := hA
      obtain ⟨⟨hed, hun⟩, hge, hblk⟩ := hE e he
      cases fs with
      | zero => have hr0 := hD.ready hed hun; rw [(h w' hg).1] at hr0; cases hr0
      | succ fs =>
        have h' := (h w' hg).2.2 e.1 hed hh hall e.2 hge hblk
        obtain ⟨E', g1, g2, g3, g4, g5⟩ := pullE (hs := hD.slot) l a e E he hnd (fun x hx => (hE x hx).1.1)
        rw [g4, g5]
        refine ih fr fs E' _ _ w' w' (by omega) (by omega) h' (Gr.refl _) (gr_size hg hB) (hc.set (hD.ready hed hun)) g3 (fun x hx => ?_)
        obtain ⟨⟨k1, k2⟩, k3, k4⟩ := hE x (g2 x hx).1
        exact ⟨⟨k1, by rw [getD_set_ne true (Ne.symm (g2 x hx).2)]; exact k2⟩, k3, k4⟩
    · have hlc := markE_closed hD l hc E (fun x hx => (hE x hx).1) hnd
      -- no early one while everything that may come up waits
      have hE0 : (∀ q ∈ Region.ready md ops l, ¬ inD D q → q ∉ Lt → False) → (∀ d ∈ D, (markE l E).getD d.1 true = false → False) → E = [] := fun k1 k2 => by
        cases E with
        | nil => rfl
        | cons e E =>
          exfalso
          have hall : ∀ j ∈ Region.ready md ops l, inD D j ∨ j ∈ Lt := fun j hj => Classical.byContradiction fun hn => k1 j hj (fun h => hn (.inl h)) (fun h => hn (.inr h))
          obtain ⟨d, hi⟩ : ∃ d, firstU D l = some d := by
            cases hh : firstU D l with
            | some x => exact ⟨x, rfl⟩
            | none =>
              have := List.find?_eq_none.1 hh e.1 (hE e List.mem_cons_self).1.1
              rw [(hE e List.mem_cons_self).1.2] at this; simp at this
          have hd : d ∈ D := List.mem_of_find?_eq_some hi
          have hdu : l.getD d.1 true = false := by have := List.find?_some hi; simpa using this
          by_cases hin : ∃ x ∈ e :: E, x.1.1 = d.1
          · obtain ⟨x, hx, hxd⟩ := hin
            have hxe := hD.uniq x.1 (hE x hx).1.1 d hd hxd
            exact hA ⟨x, hx, by rw [hxe]; exact hi, hall⟩
          · refine k2 d hd ?_
            rw [markE_get l d.1 true (e :: E) (fun x hx hxd => hin ⟨x, hx, hxd⟩)]
            exact hdu
      have hq : ∀ q ∈ Region.ready md ops l, ¬ inD D q → q ∈ Region.ready md ops (markE l E) := fun q hq hqd => by
        obtain ⟨h0, o, ho, hall⟩ := mem_ready.1 hq
        refine mem_ready.2 ⟨?_, o, ho, fun e he hb => markE_true l _ (hall e he hb) E⟩
        rw [markE_get l q true E (fun x hx hxq => hqd ⟨x.1, (hE x hx).1.1, hxq⟩)]
        exact h0
      have hdq : ∀ d ∈ D, (markE l E).getD d.1 true = false → d.1 ∈ Region.ready md ops (markE l E) := fun d hd hun => hD.ready hd hun
      cases fr with
      | zero =>
        have hle := hD.len E hnd (fun x hx => (hE x hx).1.1)
        obtain rfl : fs = 0 := by omega
        obtain ⟨h1, h2⟩ := h w' hg
        cases E with
        | nil => exact ⟨h1, h2⟩
        | cons e E =>
          have := hD.ready (hE e List.mem_cons_self).1.1 (hE e List.mem_cons_self).1.2
          rw [h1] at this; cases this
      | succ fr =>
        refine ⟨fun hr => ?_, fun p hp => ?_⟩
        · obtain rfl : E = [] := hE0 (fun q h1 h2 _ => by have := hq q h1 h2; rw [hr] at this; cases this) (fun d h1 h2 => by have := hdq d h1 h2; rw [hr] at this; cases this)
          cases fs with
          | zero => exact (h w' hg).2
          | succ fs => exact (h w' hg).1 hr
        · by_cases hpD : inD D p
          · obtain ⟨d, hd, rfl⟩ := hpD
            obtain ⟨o, ho, hdst, hgd, _⟩ := hD.op d hd
            have hun := ready_un hp
            obtain ⟨hun1, hne⟩ := markE_un l d.1 E hun
            refine wpOp_val ho (by unfold Region.wanted; simp [hgd]) (hD.run d hd o ho _ w') ?_
            rw [hdst]
            refine ih fr fs ((d, w'.heap.size) :: E) l a w (w'.alloc (.cells d.2.2.2 d.2.2.1)) (by omega) (by simp; omega) h (hg.trans ((Below.refl _ _).alloc (Nat.le_refl _) _)) hB hc ?_ (fun x hx => ?_)
            · simp only [List.map_cons, List.nodup_cons]
              exact ⟨fun hm => by obtain ⟨y, hy, he⟩ := List.mem_map.1 hm; exact hne y hy he, hnd⟩
            · rcases List.mem_cons.1 hx with rfl | hx
              · exact ⟨⟨hd, hun1⟩, by have := gr_size hg hB; exact this, heap_alloc_new _ _⟩
              · obtain ⟨k1, k2, k3⟩ := hE x hx
                exact ⟨k1, k2, (Below.heap_alloc _ _ _ (Array.getElem?_eq_some_iff.1 k3).1).trans k3⟩
          · have hpl : p ∈ Region.ready md ops l := by
              refine Classical.byContradiction fun hnp => ?_
              obtain ⟨h0, o, ho, hall⟩ := mem_ready.1 hp
              obtain ⟨hun1, hne⟩ := markE_un l p E h0
              obtain ⟨e, he, hb, hnl⟩ : ∃ e ∈ o.after, Region.binds md e = true ∧ ¬ l.getD e.on false = true := by
                refine Classical.byContradiction fun hno => hnp (mem_ready.2 ⟨hun1, o, ho, fun e he hb => Classical.byContradiction fun hx => hno ⟨e, he, hb, hx⟩⟩)
              obtain ⟨x, hx, hxe⟩ := markE_in l (hall e he hb) hnl
              obtain ⟨ha, hb2⟩ := hD.all p o ho hpD ⟨e, he, hb, x.1, (hE x hx).1.1, hxe⟩
              have hEn : E = [] := hE0 (fun q hq1 hq2 hq3 => by
                obtain ⟨q0, oq, hoq, _⟩ := mem_ready.1 hq1
                have hqp : q ≠ p := fun he => hnp (he ▸ hq1)
                rcases hb2 q oq hoq hq2 hq3 hqp with hr | hr
                · exact reach_not_ready hlc hr (ready_un (hq q hq1 hq2)) hp
                · exact reach_not_ready hc hr hun1 hq1) (fun d hd hun => reach_not_ready hlc (ha d hd) hun hp)
              subst hEn
              cases hx
            cases fs with
            | zero => rw [(h w' hg).1] at hpl; cases hpl
            | succ fs =>
              have hpo := (h w' hg).2.1 p hpl hpD
              have hneE : ∀ x ∈ E, x.1.1 ≠ p := fun x hx hxp => hpD ⟨x.1, (hE x hx).1.1, hxp⟩
              obtain ⟨_, oj, hoj, halll⟩ := mem_ready.1 hpl
              have hfw := wpOp_fwdE hD.sel hQ E (fun x hx => by
                obtain ⟨oi, hoi, hdst, _, _⟩ := hD.op x.1 (hE x hx).1.1
                refine ⟨oi, oj, hoi, hoj, hdst, hD.apart x.1 (hE x hx).1.1 p oj oi hoj hoi (Ne.symm (hneE x hx)) (fun e he hb hon => ?_)⟩
                have h1 := halll e he hb
                rw [hon] at h1
                have h2 := getD_tf (hE x hx).1.2
                rw [h2] at h1; cases h1) hpo
              refine wpOp_mono (fun a' w'' hh => ?_) hfw
              obtain ⟨a0, rfl, ⟨hgr, hbl⟩, hk⟩ := hh
              rw [← markE_set l p E hneE]
              refine ih fr fs E _ a0 w'' w'' (by omega) (by omega) hk (Gr.refl _) (by have := hbl.size; have := gr_size hg hB; omega) (hc.set hpl) hnd (fun x hx => ?_)
              obtain ⟨⟨k1, k2⟩, k3, k4⟩ := hE x hx
              have hpds : p ∉ ds := fun hm => reach_not_ready hc (hD.st p hm x.1 k1) k2 hpl
              exact ⟨⟨k1, by rw [getD_set_ne true (Ne.symm (hneE x hx))]; exact k2⟩, k3, ((hgr hpds).block _ (Array.getElem?_eq_some_iff.1 k4).1).trans k4⟩
/-- how many are not listed -/
def cntU (l : Array Bool) : Nat := l.toList.countP (fun b => !b)
theorem cntU_set {l : Array Bool} {i : Nat} (h : l.getD i true = false) : cntU (l.setIfInBounds i true) + 1 = cntU l := by
  unfold cntU
  have hlt : i < l.size := by
    rcases Nat.lt_or_ge i l.size with h' | h'
    · exact h'
    · simp [Array.getElem?_eq_none h'] at h
  rw [Array.toList_setIfInBounds, List.countP_set (by simpa using hlt)]
  have hf : l.toList[i]'(by simpa using hlt) = false := by simpa [hlt] using h
  have hp : 0 < l.toList.countP (fun b => !b) := List.countP_pos_iff.2 ⟨false, by rw [← hf]; exact List.getElem_mem _, rfl⟩
  rw [hf]
  simp only [Bool.not_false, Bool.not_true, if_true, Bool.false_eq_true, if_false]
  omega
theorem wpAny_less : ∀ (n : Nat) (l : Array Bool) (a : Act) (w : World), cntU l ≤ n → wpAny P md ops Q (n + 1) l a w → wpAny P md ops Q n l a w
  | 0, l, a, w, hc, h => by
    have hr : Region.ready md ops l = [] := by
      cases hr : Region.ready md ops l with
      | nil => rfl
      | cons x xs =>
        have := cntU_set (ready_un (md := md) (ops := ops) (l := l) (p := x) (by rw [hr]; exact List.mem_cons_self))
        omega
    exact ⟨hr, h.1 hr⟩
  | n + 1, l, a, w, hc, h => ⟨h.1, fun i hi => wpOp_mono (fun a' w' h' => wpAny_less n _ a' w' (by have := cntU_set (ready_un hi); omega) h') (h.2 i hi)⟩
theorem wpAny_lessD : ∀ (d n : Nat) (l : Array Bool) (a : Act) (w : World), cntU l ≤ n → wpAny P md ops Q (n + d) l a w → wpAny P md ops Q n l a w
  | 0, _, _, _, _, _, h => h
  | d + 1, n, l, a, w, hc, h => wpAny_lessD d n l a w hc (wpAny_less (n + d) l a w (by omega) h)
theorem LClosed_none (n : Nat) : LClosed md ops (Array.replicate n false) := fun j _ _ h => by
  exfalso
  rcases Nat.lt_or_ge j n with h' | h'
  · simp [h'] at h
  · simp [h'] at h
theorem cntU_none (n : Nat) : cntU (Array.replicate n false) = n := by unfold cntU; rw [Array.toList_replicate]; simp [List.countP_replicate]
theorem wpAny_of_D (hD : DOK P md ops ds D Lt) (hQ : ∀ (t : Tmp) v c a w, Q (.panic c) a w → Q (.panic c) (Act.put a (some t) v) w) (n : Nat) (a : Act) (w : World) (hB : B ≤ w.heap.size)
    (h : wpB P md ops Q ds B D Lt n (Array.replicate n false) a w) : wpAny P md ops Q n (Array.replicate n false) a w :=
  wpAny_lessD D.length n _ a w (by rw [cntU_none]; omega) (defer hD hQ _ (n + D.length) n [] _ a w w (Nat.le_refl _) (by simp) h (Gr.refl _) hB (LClosed_none n) (by simp) (by simp))
/-- What gives v in every world that has grown is taken first, if all stores hang on it. -/
theorem wpB_first {i : Nat} {oi : Oper} {v : Value} (hi : ops[i]? = some oi) (hsel : ∀ (j : Nat) (o : Oper) cs b, ops[j]? = some o → o.op ≠ .select cs b)
    (hQ : ∀ c a w, Q (.panic c) (a.put oi.dst v) w → Q (.panic c) a w) (n : Nat) :
    ∀ (fuel : Nat) (listed : Array Bool) (a : Act) (w : World),
      (∀ j oj, ops[j]? = some oj → j ≠ i → listed.getD j true = false → (∀ e ∈ oj.after, Region.binds md e = true → e.on ≠ i) → oi.apart ops oj = true) →
      LClosed md ops listed → (∀ d ∈ ds, listed.getD d true = false → reachB md ops i n d = true) →
      (¬ inD D i ∧ i ∉ Lt) → i ∈ Region.ready md ops listed → YG P ops oi v a w → B ≤ w.heap.size →
      wpB P md ops Q ds B D Lt fuel (listed.setIfInBounds i true) (a.put oi.dst v) w → wpB P md ops Q ds B D Lt (fuel + 1) listed a w := by
  intro fuel
  induction fuel with
  | zero =>
    intro listed a w _ _ _ hiD hr hy hB H w1 hg
    refine ⟨fun h => (by rw [h] at hr; cases hr), fun j hj hjD => ?_, fun d _ _ hall => ((hall i hr).elim hiD.1 hiD.2).elim⟩
    by_cases hji : j = i
    · subst hji; exact (hy.up hg).wpOp hi (fun w' hg' => ⟨⟨fun _ => hg', gr_bel hg' (gr_size hg hB)⟩, H.up (hg.trans hg')⟩)
    · have := ready_mono hj hji
      rw [(H w1 hg).1] at this
      cases this
  | succ fuel ih =>
    intro listed a w hfree hc hd hiD hr hy hB H w1 hg
    refine ⟨fun h => (by rw [h] at hr; cases hr), fun j hj hjD => ?_, fun d _ _ hall => ((hall i hr).elim hiD.1 hiD.2).elim⟩
    by_cases hji : j = i
    · subst hji; exact (hy.up hg).wpOp hi (fun w' hg' => ⟨⟨fun _ => hg', gr_bel hg' (gr_size hg hB)⟩, H.up (hg.trans hg')⟩)
    · have h1 := (H w1 hg).2.1 j (ready_mono hj hji) hjD
      obtain ⟨hjun, oj, hoj, hall⟩ := mem_ready.1 hj
      have hiun := (mem_ready.1 hr).1
      have hnot : ∀ e ∈ oj.after, Region.binds md e = true → e.on ≠ i := fun e he hb heq => by
        have h1 := hall e he hb
        rw [heq] at h1
        rcases Nat.lt_or_ge i listed.size with h' | h'
        · simp [h'] at hiun h1; rw [hiun] at h1; cases h1
        · simp [Array.getElem?_eq_none h'] at h1
      have hjd : j ∉ ds := fun hm => reach_not_ready hc (hd j hm hjun) hiun hj
      have h2 := wpOp_putG hoj (hfree j oj hoj hji hjun hnot) (fun cs b => hsel i oi cs b hi) (fun cs b => hsel j oj cs b hoj) hQ h1
      have hfree' : ∀ k ok, ops[k]? = some ok → k ≠ i → (listed.setIfInBounds j true).getD k true = false →
          (∀ e ∈ ok.after, Region.binds md e = true → e.on ≠ i) → oi.apart ops ok = true := fun k ok hk hki hun hno => by
        refine hfree k ok hk hki ?_ hno
        by_cases hjk : j = k
        · subst hjk; exact hjun
        · rw [getD_set_ne true hjk] at hun; exact hun
      have hd' : ∀ d ∈ ds, (listed.setIfInBounds j true).getD d true = false → reachB md ops i n d = true := fun d hm hun => by
        refine hd d hm ?_
        by_cases hjk : j = d
        · subst hjk; exact hjun
        · rw [getD_set_ne true hjk] at hun; exact hun
      refine wpOp_mono (fun a' w' h3 => ⟨h3.2.1, ih (listed.setIfInBounds j true) a' w' hfree' (hc.set hj) hd' hiD (ready_mono hr (Ne.symm hji)) ((hy.up (hg.trans (h3.2.1.1 hjd))).of_same h3.1.1 h3.1.2) ?_ ?_⟩) h2
      · exact gr_size (hg.trans (h3.2.1.1 hjd)) hB
      · rw [Array.setIfInBounds_comm _ _ hji]
        exact h3.2.2
/-- An operation that gives v in every world in which what lies below B is as in w. -/
def YB (P : Program) (ops : Array Oper) (B : Nat) (o : Oper) (v : Value) (a : Act) (w : World) : Prop :=
  (Region.wanted o (yielded ops a.tmps) = true ∧ ∀ w1, Below B w w1 → RunG P w1 v ((execOp a.eval o).run P w1)) ∨
  (Region.wanted o (yielded ops a.tmps) = false ∧ v = undef)
theorem YB.toG {o : Oper} {v : Value} {a : Act} {w : World} (h : YB P ops B o v a w) (hB : B ≤ w.heap.size) : YG P ops o v a w :=
  h.imp (fun h => ⟨h.1, fun w1 hg => h.2 w1 (gr_bel hg hB)⟩) id
theorem YB.up {o : Oper} {v : Value} {a : Act} {w w1 : World} (h : YB P ops B o v a w) (hg : Below B w w1) : YB P ops B o v a w1 :=
  h.imp (fun h => ⟨h.1, fun w2 h2 => h.2 w2 (hg.trans h2)⟩) id
theorem YB.of_same {o : Oper} {v : Value} {a a' : Act} {w : World} (hy : YB P ops B o v a w) (he : execOp a'.eval o = execOp a.eval o)
    (hw : Region.wanted o (yielded ops a'.tmps) = Region.wanted o (yielded ops a.tmps)) : YB P ops B o v a' w := by
  unfold YB at *
  rw [he, hw]
  exact hy
theorem find_congr' {α : Type} {p q : α → Bool} : ∀ {l : List α}, (∀ x ∈ l, p x = q x) → l.find? p = l.find? q
  | [], _ => rfl
  | x :: xs, h => by
    simp only [List.find?_cons]
    rw [h x List.mem_cons_self, find_congr' (fun y hy => h y (List.mem_cons_of_mem _ hy))]
theorem wpB_any {i : Nat} {oi : Oper} {v : Value} (hi : ops[i]? = some oi) (hsel : ∀ (j : Nat) (o : Oper) cs b, ops[j]? = some o → o.op ≠ .select cs b)
    (hQ : ∀ c a w, Q (.panic c) (a.put oi.dst v) w → Q (.panic c) a w) (hDK : D = [] ∨ DOK P md ops ds D Lt) :
    ∀ (fuel : Nat) (listed : Array Bool) (a : Act) (w : World),
      (∀ j oj, ops[j]? = some oj → j ≠ i → listed.getD j true = false → (∀ e ∈ oj.after, Region.binds md e = true → e.on ≠ i) → oi.apart ops oj = true) →
      LClosed md ops listed → ¬ inD D i → i ∈ Region.ready md ops listed → YB P ops B oi v a w → B ≤ w.heap.size →
      wpB P md ops Q ds B D Lt fuel (listed.setIfInBounds i true) (a.put oi.dst v) w → wpB P md ops Q ds B D Lt (fuel + 1) listed a w := by
  intro fuel
  induction fuel with
  | zero =>
    intro listed a w _ hc hiD hr hy hB H w1 hg
    refine ⟨fun h => (by rw [h] at hr; cases hr), fun j hj hjD => ?_, fun d hd hf _ g _ _ => ?_⟩
    case refine_2 =>
      have hdi : d.1 ≠ i := fun he => hiD ⟨d, hd, he⟩
      rcases hDK with rfl | hDK
      · cases hd
      have hdu : listed.getD d.1 true = false := by have := List.find?_some hf; simpa using this
      have := ready_mono (hDK.ready hd hdu) hdi
      rw [(H w1 hg).1] at this; cases this
    by_cases hji : j = i
    · subst hji; exact ((hy.toG hB).up hg).wpOp hi (fun w' hg' => ⟨⟨fun _ => hg', gr_bel hg' (gr_size hg hB)⟩, H.up (hg.trans hg')⟩)
    · have := ready_mono hj hji
      rw [(H w1 hg).1] at this
      cases this
  | succ fuel ih =>
    intro listed a w hfree hc hiD hr hy hB H w1 hg
    refine ⟨fun h => (by rw [h] at hr; cases hr), fun j hj hjD => ?_, fun d hd hf hall g hge hblk => ?_⟩
    case refine_2 =>
      have hdi : d.1 ≠ i := fun he => hiD ⟨d, hd, he⟩
      rcases hDK with rfl | hDK
      · cases hd
      have hdu : listed.getD d.1 true = false := by have := List.find?_some hf; simpa using this
      have hiL : i ∈ Lt := (hall i hr).resolve_left hiD
      have hci := hc.set hr
      have hfi : firstU D (listed.setIfInBounds i true) = some d := by
        rw [← hf]
        unfold firstU
        exact find_congr' (fun x hx => by rw [getD_set_ne true (fun he => hiD ⟨x, hx, he.symm⟩)])
      have h3 := (H w1 hg).2.2 d hd hfi (fun j hj => by
        obtain ⟨j0, oj, hoj, hja⟩ := mem_ready.1 hj
        by_cases hjl : j ∈ Region.ready md ops listed
        · exact hall j hjl
        · exfalso
          have hji : j ≠ i := fun he => by
            subst he
            have h2 : (listed.setIfInBounds j true).getD j true = false := j0
            rcases Nat.lt_or_ge j listed.size with h' | h'
            · simp [h'] at h2
            · simp at h2
          have hju : listed.getD j true = false := by rw [getD_set_ne true (Ne.symm hji)] at j0; exact j0
          obtain ⟨e, he, hb, hnl⟩ : ∃ e ∈ oj.after, Region.binds md e = true ∧ ¬ listed.getD e.on false = true :=
            Classical.byContradiction fun hno => hjl (mem_ready.2 ⟨hju, oj, hoj, fun e he hb => Classical.byContradiction fun hx => hno ⟨e, he, hb, hx⟩⟩)
          have hei : e.on = i := Classical.byContradiction fun hne => hnl (by have := hja e he hb; rw [getD_set_ne false (Ne.symm hne)] at this; exact this)
          exact reach_not_ready hci (hDK.lt i hiL j oj hoj ⟨e, he, hb, hei⟩ d hd) (by rw [getD_set_ne true (Ne.symm hdi)]; exact hdu) hj) g hge hblk
      obtain ⟨od, hod, hdst, _, hnod⟩ := hDK.op d hd
      obtain ⟨_, oi', hoi', hia⟩ := mem_ready.1 hr
      obtain rfl : oi' = oi := Option.some.inj (hoi'.symm.trans hi)
      have hap := hDK.apart d hd i oi' od hi hod (Ne.symm hdi) (fun e he hb hon => by
        have h1 := hia e he hb
        rw [hon, getD_tf hdu] at h1; cases h1)
      obtain ⟨p1, p2, p3⟩ := Oper.apart_spec hap
      have hcd := hc.set (hDK.ready hd hdu)
      refine ih (listed.setIfInBounds d.1 true) _ w1 (fun k ok hk hki hun hno => hfree k ok hk hki (by
          by_cases hdk : d.1 = k
          · subst hdk; exact hdu
          · rw [getD_set_ne true hdk] at hun; exact hun) hno) hcd hiD (ready_mono hr (Ne.symm hdi))
        ((hy.up (gr_bel hg hB)).of_same (execOp_put oi' (fun cs b => hsel i oi' cs b hi) a (some d.2.1) _ (fun t ht => p1 t (by rw [hdst]; exact ht))) (wanted_put oi' a (some d.2.1) _ (fun t ht => p1 t (by rw [hdst]; exact ht)))) (gr_size hg hB) ?_
      rw [Array.setIfInBounds_comm _ _ hdi, Act.put_comm a (x := some d.2.1) (y := oi'.dst) _ _ (fun t ht => p2 t (by rw [hdst]; exact ht))]
      exact h3
    by_cases hji : j = i
    · subst hji; exact ((hy.toG hB).up hg).wpOp hi (fun w' hg' => ⟨⟨fun _ => hg', gr_bel hg' (gr_size hg hB)⟩, H.up (hg.trans hg')⟩)
    · have h1 := (H w1 hg).2.1 j (ready_mono hj hji) hjD
      obtain ⟨hjun, oj, hoj, hall⟩ := mem_ready.1 hj
      have hiun := (mem_ready.1 hr).1
      have hnot : ∀ e ∈ oj.after, Region.binds md e = true → e.on ≠ i := fun e he hb heq => by
        have h1 := hall e he hb
        rw [heq] at h1
        rcases Nat.lt_or_ge i listed.size with h' | h'
        · simp [h'] at hiun h1; rw [hiun] at h1; cases h1
        · simp [Array.getElem?_eq_none h'] at h1
      have h2 := wpOp_putG hoj (hfree j oj hoj hji hjun hnot) (fun cs b => hsel i oi cs b hi) (fun cs b => hsel j oj cs b hoj) hQ h1
      have hfree' : ∀ k ok, ops[k]? = some ok → k ≠ i → (listed.setIfInBounds j true).getD k true = false →
          (∀ e ∈ ok.after, Region.binds md e = true → e.on ≠ i) → oi.apart ops ok = true := fun k ok hk hki hun hno => by
        refine hfree k ok hk hki ?_ hno
        by_cases hjk : j = k
        · subst hjk; exact hjun
        · rw [getD_set_ne true hjk] at hun; exact hun
      refine wpOp_mono (fun a' w' h3 => ⟨h3.2.1, ?_⟩) h2
      have hb' : Below B w w' := (gr_bel hg hB).trans h3.2.1.2
      refine ih (listed.setIfInBounds j true) a' w' hfree' (hc.set hj) hiD (ready_mono hr (Ne.symm hji)) ((hy.up hb').of_same h3.1.1 h3.1.2) (by have := hb'.size; omega) ?_
      rw [Array.setIfInBounds_comm _ _ hji]
      exact h3.2.2
/-- One after the other; what is marked gives its value wherever what lies below B is as in w, the rest in every world that has grown out of w. -/
def SeqG (P : Program) (ops : Array Oper) (B : Nat) (w : World) (K : Act → Prop) : List (Nat × Bool × Option Tmp) → Act → Prop
  | [], a => K a
  | (i, true, N) :: r, a => ∃ o v, ops[i]? = some o ∧ o.dst = N ∧ YB P ops B o v a w ∧ SeqG P ops B w K r (a.put N v)
  | (i, false, N) :: r, a => ∃ o v, ops[i]? = some o ∧ o.dst = N ∧ YG P ops o v a w ∧ SeqG P ops B w K r (a.put N v)
def markL (l : Array Bool) : List (Nat × Bool × Option Tmp) → Array Bool
  | [] => l
  | (i, _) :: r => markL (l.setIfInBounds i true) r
def seqB (md : Region.Mode) (ops : Array Oper) (ds : List Nat) (D Lt : List Nat) : List (Nat × Bool × Option Tmp) → Array Bool → Bool
  | [], _ => true
  | (i, true, _) :: r, l => ((!D.contains i && closedB md ops l) && kanyB md ops l (l.setIfInBounds i true) i) && seqB md ops ds D Lt r (l.setIfInBounds i true)
  | (i, false, _) :: r, l => ((!D.contains i && !Lt.contains i) && ktakeB md ops ds l (l.setIfInBounds i true) i) && seqB md ops ds D Lt r (l.setIfInBounds i true)
theorem notD {i : Nat} (h : (!(D.map (·.1)).contains i) = true) : ¬ inD D i := fun ⟨d, hd, he⟩ => by
  have : (D.map (·.1)).contains i = true := List.contains_iff_mem.2 (List.mem_map.2 ⟨d, hd, he⟩)
  rw [this] at h; cases h
theorem putQ (hQ : ∀ (t : Tmp) v c a w, Q (.panic c) (Act.put a (some t) v) w → Q (.panic c) a w) (d : Option Tmp) (v : Value) (c : _) (a : Act) (w : World) (h : Q (.panic c) (Act.put a d v) w) : Q (.panic c) a w := by
  cases d with
  | none => exact h
  | some t => exact hQ t v c a w h
theorem kseq0 (hDK : D = [] ∨ DOK P md ops ds D Lt) (hQ : ∀ (t : Tmp) v c a w, Q (.panic c) (Act.put a (some t) v) w → Q (.panic c) a w) (m : Nat) (w : World) (hB : B ≤ w.heap.size) : ∀ (is : List (Nat × Bool × Option Tmp)) (l : Array Bool) (a : Act), seqB md ops ds (D.map (·.1)) Lt is l = true →
    SeqG P ops B w (fun a' => wpB P md ops Q ds B D Lt m (markL l is) a' w) is a → wpB P md ops Q ds B D Lt (m + is.length) l a w
  | [], _, _, _, h => h
  | (i, true, N) :: r, l, a, hc, h => by
    obtain ⟨o, v, ho, rfl, hy, hr⟩ := h
    simp only [seqB, Bool.and_eq_true, kanyB] at hc
    obtain ⟨⟨⟨h0, hcl⟩, ⟨⟨⟨h1, h2⟩, h3⟩, _⟩⟩, h5⟩ := hc
    exact wpB_any ho (Region.noSelect_spec h1) (putQ hQ _ _) hDK (m + r.length) l a w (Region.free_spec ho h2) (closedB_spec hcl) (notD h0) (by simpa using h3) hy hB (kseq0 hDK hQ m w hB r _ _ h5 hr)
  | (i, false, N) :: r, l, a, hc, h => by
    obtain ⟨o, v, ho, rfl, hy, hr⟩ := h
    simp only [seqB, Bool.and_eq_true, ktakeB] at hc
    obtain ⟨⟨⟨h0, hL⟩, ⟨⟨⟨⟨⟨h1, h2⟩, h3⟩, h4⟩, h5⟩, _⟩⟩, h7⟩ := hc
    exact wpB_first ho (Region.noSelect_spec h1) (putQ hQ _ _) ops.size (m + r.length) l a w (Region.free_spec ho h2) (closedB_spec h4)
      (fun d hm hun => by have := List.all_eq_true.1 h5 d hm; rw [hun] at this; simpa using this) ⟨notD h0, by simpa using hL⟩ (by simpa using h3) hy hB (kseq0 hDK hQ m w hB r _ _ h7 hr)
theorem bseq {fuel m : Nat} {l : Array Bool} {a : Act} {w : World} (hDK : D = [] ∨ DOK P md ops ds D Lt) (is : List (Nat × Bool × Option Tmp)) (l' : Array Bool) (hB : B ≤ w.heap.size) (hc : (seqB md ops ds (D.map (·.1)) Lt is l && (markL l is == l')) = true) (hf : m + is.length = fuel)
    (hQ : ∀ (t : Tmp) v c a w, Q (.panic c) (Act.put a (some t) v) w → Q (.panic c) a w) (h : SeqG P ops B w (fun a' => wpB P md ops Q ds B D Lt m l' a' w) is a) : wpB P md ops Q ds B D Lt fuel l a w := by
  subst hf
  simp only [Bool.and_eq_true, beq_iff_eq] at hc
  obtain ⟨h1, rfl⟩ := hc
  exact kseq0 hDK hQ m w hB is l a h1 h
theorem wpAny_of_B : ∀ (fuel : Nat) (l : Array Bool) (a : Act) (w : World), wpB P md ops Q ds B [] [] fuel l a w → wpAny P md ops Q fuel l a w
  | 0, _, _, w, h => h w (.refl w)
  | fuel + 1, _, _, w, h => ⟨(h w (.refl w)).1, fun i hi => wpOp_mono (fun a' w' h' => wpAny_of_B fuel _ a' w' h'.2) ((h w (.refl w)).2.1 i hi (fun ⟨_, hd, _⟩ => by cases hd))⟩
/-- B: the world's size as a rule; less where a block that is there is stored into. -/
theorem bstart (B : World → Nat) {id n : Nat} {a : Act} {w : World} (l : Array Bool) (hm : P.follows .mixedOrders = true) (hn : ops.size = n) (hl : Array.replicate n false = l) (hB : B w ≤ w.heap.size)
    (h : B w ≤ w.heap.size → wpB P .any ops Q ds (B w) [] [] n l a w) : (Code.region id ops true).wp P Q a w := by
  subst hn
  subst hl
  exact wp_region_any hm (wpAny_of_B _ _ _ _ ((h hB).up ((Gr.refl w).drew)))
def kreadyD (md : Region.Mode) (ops : Array Oper) (D Lt : List Nat) (l l' : Array Bool) (i : Nat) : Bool := ((Region.ready md ops l).filter (fun j => !D.contains j) == [i]) && !Lt.contains i && (l.setIfInBounds i true == l')
/-- One operation alone may come up now (beside allocations that wait). -/
theorem bone {i : Nat} {N : Option Tmp} {oi : Oper} {fuel : Nat} {l : Array Bool} {a : Act} {w : World} (l' : Array Bool) (hi : ops[i]? = some oi) (hN : oi.dst = N) (hc : kreadyD md ops (D.map (·.1)) Lt l l' i = true) (hB : B ≤ w.heap.size)
    (h : ∀ w1, Gr w w1 → ∀ K : Act → World → Prop, (∀ a' w', (if i ∈ ds then Below B w1 w' else Gr w1 w') → (B ≤ w'.heap.size → wpB P md ops Q ds B D Lt fuel l' a' w') → K a' w') → if Region.wanted oi (yielded ops a.tmps) = true then Oper.wp P oi a w1 K Q else K (a.put N undef) w1) :
    wpB P md ops Q ds B D Lt (fuel + 1) l a w := by
  subst hN
  simp only [kreadyD, Bool.and_eq_true, beq_iff_eq] at hc
  obtain ⟨⟨h1, hL⟩, h2⟩ := hc
  subst h2
  have hm : i ∈ (Region.ready md ops l).filter (fun j => !(D.map (·.1)).contains j) := by rw [h1]; exact List.mem_singleton_self i
  rw [List.mem_filter] at hm
  intro w1 hg
  refine ⟨fun h0 => (by rw [h0] at hm; cases hm.1), fun j hj hjD => ?_, fun d hd hh hall => ((hall i hm.1).elim (notD hm.2) (by simpa using hL)).elim⟩
  have hjm : j ∈ (Region.ready md ops l).filter (fun j => !(D.map (·.1)).contains j) := List.mem_filter.2 ⟨hj, by
    cases hc : (D.map (·.1)).contains j with
    | false => rfl
    | true =>
      obtain ⟨x, hx, he⟩ := List.mem_map.1 (List.contains_iff_mem.1 hc)
      exact absurd ⟨x, hx, he⟩ hjD⟩
  rw [h1] at hjm
  obtain rfl := List.mem_singleton.1 hjm
  refine wpOp_step hi (fun K' hK => h w1 hg K' (fun a' w' h2 h3 => ?_))
  have h4 : (j ∉ ds → Gr w1 w') ∧ Below B w1 w' := by
    split at h2
    · rename_i hd; exact ⟨fun hn => absurd hd hn, h2⟩
    · exact ⟨fun _ => h2, gr_bel h2 (gr_size hg hB)⟩
  exact hK a' w' ⟨h4, h3 (Nat.le_trans (gr_size hg hB) (Below.size h4.2))⟩
theorem bdone {l : Array Bool} {a : Act} {w : World} {n : Nat} (hr : ((Region.ready md ops l == []) && (D.map (·.1)).all (fun i => l.getD i true)) = true) (h : ∀ w1, Gr w w1 → Q .normal a w1) : wpB P md ops Q ds B D Lt n l a w := by
  simp only [Bool.and_eq_true, beq_iff_eq] at hr
  obtain ⟨hr, hf⟩ := hr
  cases n with
  | zero => exact fun w1 hg => ⟨hr, h w1 hg⟩
  | succ n => exact fun w1 hg => ⟨fun _ => h w1 hg, by rw [hr]; simp, fun d hd hf' => by
      have h1 := List.all_eq_true.1 hf d.1 (List.mem_map.2 ⟨d, hd, rfl⟩)
      have h2 := List.find?_some hf'
      rw [h1] at h2; cases h2⟩
/-- A call whose contract tells what holds of its answer. -/
theorem wp_call {f : FuncId} {fn : Func} {asL : List Operand} {ts : Array TypeId} {al : List Value} {o : Oper} {a : Act} {w : World} {K : Act → World → Prop} (hf : P.funcs[f]? = some fn)
    (hop : o.op = .call { callee := .value (.func f), args := asL.toArray, argTypes := ts }) (hname : (fn.name == "runtime.NumGoroutine") = false) (hb : fn.body.isSome = true) (hargs : asL.map a.eval = al)
    (h : Calls P f al.toArray w fun e w' => ∃ v, e = .returned v ∧ K (a.put o.dst v) w') : Oper.wp P o a w K Q := by
  have he := callFunc_enters hf hname hb al.toArray w
  have hr : (execOp a.eval o).run P w = .ok (.enter f al.toArray) w := by
    unfold execOp
    simp [hop, resolve, Deferred.ofValue, invoke, Act.eval]
    rw [show (List.map (Act.eval a) asL) = al from hargs, he]
  unfold Oper.wp
  rw [hr]
  simp only [Oper.upon]
  exact Calls.mono h (fun e w' ⟨v, he, hk⟩ => by subst he; exact hk)
/-- An allocation that waited: some new block. -/
theorem balloc {fuel : Nat} {l : Array Bool} {a : Act} {w : World} (hD : DOK P md ops ds D Lt) (d : DIt) (hd : d ∈ D) (l' : Array Bool)
    (hc : ((D.map (·.1)).find? (fun i => !l.getD i true) == some d.1 && (Region.ready md ops l).all (fun j => (D.map (·.1)).contains j) && (l.setIfInBounds d.1 true == l')) = true)
    (hB : B ≤ w.heap.size) (h : ∀ w1 g, Gr w w1 → B ≤ g → w1.heap[g]? = some (.cells d.2.2.2 d.2.2.1 (0, 0)) → B ≤ w1.heap.size → wpB P md ops Q ds B D Lt fuel l' (a.put (some d.2.1) (ptrV g)) w1) : wpB P md ops Q ds B D Lt (fuel + 1) l a w := by
  simp only [Bool.and_eq_true, beq_iff_eq] at hc
  obtain ⟨⟨h1, h2⟩, rfl⟩ := hc
  intro w1 hg
  have hun : l.getD d.1 true = false := by have := List.find?_some h1; simpa using this
  have hrd := hD.ready hd hun
  refine ⟨fun h0 => (by rw [h0] at hrd; cases hrd), fun j hj hn => ?_, fun d' hd' hh _ g hge hb => ?_⟩
  · have := List.all_eq_true.1 h2 j hj
    obtain ⟨x, hx, he⟩ := List.mem_map.1 (List.contains_iff_mem.1 this)
    exact absurd ⟨x, hx, he⟩ hn
  · have h5 : (D.map (·.1)).find? (fun i => !l.getD i true) = some d'.1 := by
      rw [List.find?_map]
      show Option.map (·.1) (D.find? (fun x => !l.getD x.1 true)) = _
      unfold firstU at hh
      rw [hh]; rfl
    rw [h1] at h5
    obtain rfl := hD.uniq d hd d' hd' (Option.some.inj h5)
    exact h w1 g hg hge hb (gr_size hg hB)
theorem nodup_le : ∀ (xs ys : List Nat), xs.Nodup → (∀ x ∈ xs, x ∈ ys) → xs.length ≤ ys.length
  | [], _, _, _ => by simp
  | x :: xs, ys, hn, h => by
    simp only [List.nodup_cons] at hn
    have hx := h x List.mem_cons_self
    have := nodup_le xs (ys.erase x) hn.2 (fun y hy => (List.mem_erase_of_ne (fun he => by subst he; exact hn.1 hy)).2 (h y (List.mem_cons_of_mem _ hy)))
    rw [List.length_erase_of_mem hx] at this
    have := List.length_pos_of_mem hx
    simp; omega
def dokB (md : Region.Mode) (ops : Array Oper) (ds : List Nat) (D : List (Nat × Tmp)) (Lt : List Nat) : Bool :=
  Region.noSelect ops && D.all (fun d => (match ops[d.1]? with | some o => o.dst == some d.2 && o.guard.isNone && o.after.all (fun e => !Region.binds md e) | none => false) && Region.free md ops (Array.replicate ops.size false) d.1 && D.all (fun d' => d.1 == d'.1 || d.2 != d'.2)) &&
  decide ((D.map (·.1)).Nodup) &&
  (List.range ops.size).all (fun p => match ops[p]? with
    | some o => (D.map (·.1)).contains p || !o.after.any (fun e => Region.binds md e && (D.map (·.1)).contains e.on) ||
      (D.all (fun d => reachB md ops d.1 ops.size p) && (List.range ops.size).all (fun q => (D.map (·.1)).contains q || Lt.contains q || q == p || reachB md ops q ops.size p || reachB md ops p ops.size q))
    | none => true) &&
  ds.all (fun p => D.all (fun d => reachB md ops d.1 ops.size p)) &&
  Lt.all (fun i => (List.range ops.size).all (fun r => match ops[r]? with
    | some o => !o.after.any (fun e => Region.binds md e && e.on == i) || D.all (fun d => reachB md ops d.1 ops.size r)
    | none => true))
theorem DOK.of (hc : dokB md ops ds (D.map (fun d => (d.1, d.2.1))) Lt = true) (hr : ∀ d ∈ D, ∀ o, ops[d.1]? = some o → ∀ (ev : Operand → Value) w, (execOp ev o).run P w = .ok (.value (ptrV w.heap.size)) (w.alloc (.cells d.2.2.2 d.2.2.1))) : DOK P md ops ds D Lt := by
  simp only [dokB, Bool.and_eq_true, List.map_map] at hc
  obtain ⟨⟨⟨⟨⟨h1, h2⟩, h3⟩, h4⟩, h5⟩, h6⟩ := hc
  have hidx : (D.map (fun d => (d.1, d.2.1))).map (·.1) = D.map (·.1) := by rw [List.map_map]; rfl
  have hidx' : List.map ((fun (d : Nat × Tmp) => d.1) ∘ fun (d : DIt) => (d.1, d.2.1)) D = D.map (·.1) := rfl
  rw [hidx'] at h3 h4
  have h3 := of_decide_eq_true h3
  have e2 : ∀ d ∈ D, ∃ o, ops[d.1]? = some o ∧ o.dst = some d.2.1 ∧ o.guard = none ∧ (∀ e ∈ o.after, Region.binds md e = false) := fun d hd => by
    have := List.all_eq_true.1 h2 (d.1, d.2.1) (List.mem_map.2 ⟨d, hd, rfl⟩)
    simp only [Bool.and_eq_true] at this
    have h := this.1.1
    cases ho : ops[d.1]? with
    | none => simp only [ho] at h; cases h
    | some o =>
      simp only [ho, Bool.and_eq_true, beq_iff_eq, Option.isNone_iff_eq_none] at h
      refine ⟨o, rfl, h.1.1, h.1.2, fun e he => ?_⟩
      have := Array.all_eq_true_iff_forall_mem.1 h.2 e he
      simpa using this
  refine ⟨fun j o cs b ho => Region.noSelect_spec h1 j o cs b ho, e2, hr, fun d hd d' hd' hne => ?_, fun E hn hE => ?_, fun d hd d' hd' he => ?_, fun d hd j oj oi hoj hoi hne hno => ?_, fun p o ho hp hex => ?_, fun p hp d hd => ?_, fun i hi r o ho hex d hd => ?_⟩
  · have := List.all_eq_true.1 h2 (d.1, d.2.1) (List.mem_map.2 ⟨d, hd, rfl⟩)
    simp only [Bool.and_eq_true] at this
    have := List.all_eq_true.1 this.2 (d'.1, d'.2.1) (List.mem_map.2 ⟨d', hd', rfl⟩)
    simp [hne] at this
    exact this
  · have := nodup_le (E.map (·.1.1)) (D.map (·.1)) hn (fun x hx => by
      obtain ⟨y, hy, rfl⟩ := List.mem_map.1 hx
      exact List.mem_map.2 ⟨y.1, hE y hy, rfl⟩)
    simpa using this
  · obtain ⟨i, hi⟩ := List.getElem?_of_mem hd
    obtain ⟨j, hj⟩ := List.getElem?_of_mem hd'
    have := nodup_get h3 (i := i) (j := j) (x := d.1) (by rw [List.getElem?_map, hi]; rfl) (by rw [List.getElem?_map, hj, he]; rfl)
    subst this
    rw [hi] at hj
    exact Option.some.inj hj
  · have := List.all_eq_true.1 h2 (d.1, d.2.1) (List.mem_map.2 ⟨d, hd, rfl⟩)
    simp only [Bool.and_eq_true] at this
    have hjl : j < ops.size := (Array.getElem?_eq_some_iff.1 hoj).1
    exact Region.free_spec hoi this.1.2 j oj hoj hne (by simp [hjl]) hno
  · have hpl : p < ops.size := (Array.getElem?_eq_some_iff.1 ho).1
    have h := List.all_eq_true.1 h4 p (List.mem_range.2 hpl)
    simp only [ho, Bool.or_eq_true, Bool.and_eq_true] at h
    have hnD : ¬ (D.map (·.1)).contains p = true := fun hh => by
      obtain ⟨x, hx, he⟩ := List.mem_map.1 (List.contains_iff_mem.1 hh)
      exact hp ⟨x, hx, he⟩
    obtain ⟨e, he, hb, d0, hd0, hde⟩ := hex
    have hany : o.after.any (fun e => Region.binds md e && (D.map (·.1)).contains e.on) = true :=
      Array.any_eq_true'.2 ⟨e, he, by rw [hb, Bool.true_and]; exact List.contains_iff_mem.2 (List.mem_map.2 ⟨d0, hd0, hde⟩)⟩
    rw [hany] at h
    rcases h with (h | h) | ⟨ha, hq⟩
    · exact absurd h hnD
    · cases h
    · refine ⟨fun d hd => List.all_eq_true.1 ha (d.1, d.2.1) (List.mem_map.2 ⟨d, hd, rfl⟩), fun q oq hoq hqD hqL hne => ?_⟩
      have := List.all_eq_true.1 hq q (List.mem_range.2 (Array.getElem?_eq_some_iff.1 hoq).1)
      simp only [Bool.or_eq_true, beq_iff_eq] at this
      rcases this with (((h | h0) | h) | h) | h
      · obtain ⟨x, hx, he⟩ := List.mem_map.1 (List.contains_iff_mem.1 h)
        exact absurd ⟨x, hx, he⟩ hqD
      · exact absurd (List.contains_iff_mem.1 h0) hqL
      · exact absurd h hne
      · exact .inl h
      · exact .inr h
  · exact List.all_eq_true.1 (List.all_eq_true.1 h5 p hp) (d.1, d.2.1) (List.mem_map.2 ⟨d, hd, rfl⟩)
  · have h := List.all_eq_true.1 (List.all_eq_true.1 h6 i hi) r (List.mem_range.2 (Array.getElem?_eq_some_iff.1 ho).1)
    obtain ⟨e, he, hb, hei⟩ := hex
    simp only [ho, Bool.or_eq_true] at h
    have hany : o.after.any (fun e => Region.binds md e && e.on == i) = true := Array.any_eq_true'.2 ⟨e, he, by rw [hb, Bool.true_and, hei]; simp⟩
    rw [hany] at h
    exact List.all_eq_true.1 (h.resolve_left (by simp)) (d.1, d.2.1) (List.mem_map.2 ⟨d, hd, rfl⟩)
/-- A region with allocations that wait. -/
theorem dstart (B : World → Nat) (D : List DIt) (Lt : List Nat) {id n : Nat} {a : Act} {w : World} (l : Array Bool) (hc : dokB .any ops ds (D.map (fun d => (d.1, d.2.1))) Lt = true)
    (hr : ∀ d ∈ D, ∀ o, ops[d.1]? = some o → ∀ (ev : Operand → Value) w, (execOp ev o).run P w = .ok (.value (ptrV w.heap.size)) (w.alloc (.cells d.2.2.2 d.2.2.1)))
    (hm : P.follows .mixedOrders = true) (hn : ops.size = n) (hl : Array.replicate n false = l) (hB : B w ≤ w.heap.size)
    (hQ : ∀ (t : Tmp) v c a w, Q (.panic c) a w → Q (.panic c) (Act.put a (some t) v) w)
    (h : DOK P .any ops ds D Lt → B w ≤ w.heap.size → wpB P .any ops Q ds (B w) D Lt n l a w) : (Code.region id ops true).wp P Q a w := by
  subst hn
  subst hl
  have hD := DOK.of (P := P) (D := D) (Lt := Lt) hc hr
  exact wp_region_any hm (wpAny_of_D hD hQ _ _ _ (gr_size ((Gr.refl w).drew) hB) ((h hD hB).up ((Gr.refl w).drew)))
theorem SeqG_mono {w : World} {K K' : Act → Prop} (hk : ∀ a, K a → K' a) : ∀ (is : List (Nat × Bool × Option Tmp)) (a : Act), SeqG P ops B w K is a → SeqG P ops B w K' is a
  | [], _, h => hk _ h
  | (_, true, _) :: r, _, ⟨o, v, ho, hN, hy, h⟩ => ⟨o, v, ho, hN, hy, SeqG_mono hk r _ h⟩
  | (_, false, _) :: r, _, ⟨o, v, ho, hN, hy, h⟩ => ⟨o, v, ho, hN, hy, SeqG_mono hk r _ h⟩
/-- A region all of whose operations are of this kind. -/
theorem kall {id n : Nat} {a : Act} {w : World} (is : List (Nat × Bool × Option Tmp)) (hm : P.follows .mixedOrders = true) (hn : ops.size = n) (hc : (seqB .any ops [] [] [] is (Array.replicate n false) && (Region.ready .any ops (markL (Array.replicate n false) is) == [])) = true) (hf : is.length = n)
    (hQ : ∀ (t : Tmp) v c a w, Q (.panic c) (Act.put a (some t) v) w → Q (.panic c) a w) (h : SeqG P ops w.heap.size w (fun a' => ∀ w1, Gr w w1 → Q .normal a' w1) is a) : (Code.region id ops true).wp P Q a w := by
  simp only [Bool.and_eq_true] at hc
  refine bstart (fun w => w.heap.size) (ds := []) _ hm hn rfl (Nat.le_refl _) (fun _ => ?_)
  have := kseq0 (md := .any) (ds := []) (D := []) (Lt := []) (.inl rfl) hQ 0 w (Nat.le_refl _) is _ a hc.1 (P := P) (ops := ops) ?_
  · rw [Nat.zero_add, hf] at this; exact this
  · exact SeqG_mono (fun a' h' => bdone (by rw [hc.2]; rfl) h') is a h
section
variable {i : Nat} {r : List (Nat × Bool × Option Tmp)} {a a' : Act} {w : World} {K : Act → Prop} {o : Oper} {v : Value} {N : Option Tmp}
theorem sP (ho : ops[i]? = some o) (hN : o.dst = N) (hw : Region.wanted o (yielded ops a.tmps) = true) (hy : ∀ w', (execOp a.eval o).run P w' = .ok (.value v) w') (ha : a.put N v = a') (h : SeqG P ops B w K r a') : SeqG P ops B w K ((i, true, N) :: r) a :=
  ⟨o, v, ho, hN, .inl ⟨hw, fun w1 _ => RunG_value (hy w1)⟩, by rw [ha]; exact h⟩
/-- A load of what lies below B. -/
theorem sB (ho : ops[i]? = some o) (hN : o.dst = N) (hw : Region.wanted o (yielded ops a.tmps) = true) (hy : ∀ w1, Below B w w1 → (execOp a.eval o).run P w1 = .ok (.value v) w1) (ha : a.put N v = a') (h : SeqG P ops B w K r a') : SeqG P ops B w K ((i, true, N) :: r) a :=
  ⟨o, v, ho, hN, .inl ⟨hw, fun w1 hg => RunG_value (hy w1 hg)⟩, by rw [ha]; exact h⟩
/-- An operation whose guard is false. -/
theorem sO (ho : ops[i]? = some o) (hN : o.dst = N) (hw : Region.wanted o (yielded ops a.tmps) = false) (ha : a.put N undef = a') (h : SeqG P ops B w K r a') : SeqG P ops B w K ((i, true, N) :: r) a :=
  ⟨o, undef, ho, hN, .inr ⟨hw, rfl⟩, by rw [ha]; exact h⟩
theorem sL (ho : ops[i]? = some o) (hN : o.dst = N) (hw : Region.wanted o (yielded ops a.tmps) = true) (hy : ∀ w1, Gr w w1 → (execOp a.eval o).run P w1 = .ok (.value v) w1) (ha : a.put N v = a') (h : SeqG P ops B w K r a') : SeqG P ops B w K ((i, false, N) :: r) a :=
  ⟨o, v, ho, hN, .inl ⟨hw, fun w1 hg => RunG_value (hy w1 hg)⟩, by rw [ha]; exact h⟩
theorem sC {f : FuncId} {fn : Func} {asL : List Operand} {ts : Array TypeId} {al : List Value} (hf : P.funcs[f]? = some fn) (ho : ops[i]? = some o) (hN : o.dst = N) (hw : Region.wanted o (yielded ops a.tmps) = true)
    (hop : o.op = .call { callee := .value (.func f), args := asL.toArray, argTypes := ts }) (hname : (fn.name == "runtime.NumGoroutine") = false) (hb : fn.body.isSome = true) (hargs : asL.map a.eval = al)
    (hy : ∀ w1, Gr w w1 → Calls P f al.toArray w1 fun e w'' => e = .returned v ∧ Below w1.heap.size w1 w'') (ha : a.put N v = a') (h : SeqG P ops B w K r a') : SeqG P ops B w K ((i, false, N) :: r) a :=
  ⟨o, v, ho, hN, .inl ⟨hw, fun w1 hg => RunG_call hf hname hb al hop hargs (hy w1 hg)⟩, by rw [ha]; exact h⟩
/-- The same behind any store above B. -/
theorem sD {f : FuncId} {fn : Func} {asL : List Operand} {ts : Array TypeId} {al : List Value} (hf : P.funcs[f]? = some fn) (ho : ops[i]? = some o) (hN : o.dst = N) (hw : Region.wanted o (yielded ops a.tmps) = true)
    (hop : o.op = .call { callee := .value (.func f), args := asL.toArray, argTypes := ts }) (hname : (fn.name == "runtime.NumGoroutine") = false) (hb : fn.body.isSome = true) (hargs : asL.map a.eval = al)
    (hy : ∀ w1, Below B w w1 → Calls P f al.toArray w1 fun e w'' => e = .returned v ∧ Below w1.heap.size w1 w'') (ha : a.put N v = a') (h : SeqG P ops B w K r a') : SeqG P ops B w K ((i, true, N) :: r) a :=
  ⟨o, v, ho, hN, .inl ⟨hw, fun w1 hg => RunG_call hf hname hb al hop hargs (hy w1 hg)⟩, by rw [ha]; exact h⟩
end
end
theorem bel_set {B g j : Nat} {w : World} {v : Value} (h : B ≤ g) : Below B w (w.setCell ⟨g, j, none⟩ v) :=
  ⟨rfl, rfl, rfl, by simp [World.setCell], fun i hi => Below.heap_setCell w _ _ _ (by show i ≠ g; omega)⟩
theorem bel_setRow {B g : Nat} {w : World} (h : B ≤ g) (cs : Array Value) : Below B w (w.setRow g cs) :=
  ⟨rfl, rfl, rfl, by simp, fun i hi => setRow_other w g i cs (by omega)⟩
theorem in_ds {p q : Prop} [Decidable p] (h : p) {a : Prop} (ha : a) : if p then a else q := by rw [if_pos h]; exact ha
theorem not_ds {p q : Prop} [Decidable p] (h : ¬ p) {a : Prop} (ha : q) : if p then a else q := by rw [if_neg h]; exact ha
/-- A whole array or struct out of a block. -/
theorem run_load_row {P : Program} {o : Oper} {a : Act} {w : World} (ty : TypeId) (x : Operand) (ho : o.op = .load ty x) (g : Nat) (hx : a.eval x = .pointer (some ⟨g, 0, none⟩)) (t : TypeId) (cs : Array Value) (fr : Nat × Nat) (d : TypeDesc)
    (hg : w.heap[g]? = some (.cells cs t fr)) (hu : P.underlying ty = some d) (hd : (match d with | .struct _ | .array _ _ => true | _ => false) = true) (hi : (P.info? ty).map (·.size) = some cs.size) :
    (execOp a.eval o).run P w = .ok (.value (.agg cs)) w := by
  unfold execOp
  simp only [ho, hx, Instr.loadAt, Instr.sureAddr, Sem.run_bind, Sem.run_pure, Result.andThen_ok, run_loadVar_row w g t ty cs fr d hg hu hd hi]
theorem Own.setRow {w0 w : World} {L L' : List (Nat × Obj)} (h : Own w0 L w) (k : Nat) {g : Nat} {cs : Array Value} {t : TypeId} {fr : Nat × Nat} (hk : L[k]? = some (g, .cells cs t fr)) (cs' : Array Value)
    (hL : L.set k (g, .cells cs' t fr) = L') : Own w0 L' (w.setRow g cs') :=
  hL ▸ h.modify k hk (size_setRow w g cs') rfl rfl rfl (setRow_heap w g cs cs' t fr (h.blk k hk)) (fun i hi => setRow_other w g i cs' hi)
theorem Own.allLt {w0 w : World} {L : List (Nat × Obj)} (h : Own w0 L w) : ∀ p ∈ L, p.1 < w.heap.size := fun p hp => (Array.getElem?_eq_some_iff.1 (h.mem p hp).1).1
/-- A block that waited is taken up. -/
theorem Own.takeB {w0 w : World} {L : List (Nat × Obj)} (h : Own w0 L w) {B g : Nat} {o : Obj} (hl : ∀ p ∈ L, p.1 < B) (hB : B ≤ g) (h0 : w0.heap.size ≤ B) (hb : w.heap[g]? = some o) : Own w0 ((g, o) :: L) w :=
  h.take hb (by omega) (fun hm => by obtain ⟨p, hp, he⟩ := List.mem_map.1 hm; have := hl p hp; omega)
/-- A block of the call's own in a world in which what lies below B is the same. -/
theorem Own.belB {w0 w w1 : World} {L : List (Nat × Obj)} {B : Nat} (h : Own w0 L w) (hg : Below B w w1) (h0 : w0.heap.size ≤ B) (hl : ∀ p ∈ L, p.1 < B) : Own w0 L w1 :=
  ⟨h.below.trans (Below.mono hg h0), fun p hp => ⟨(hg.block p.1 (hl p hp)).trans (h.mem p hp).1, (h.mem p hp).2⟩, h.nd⟩
end Go.Proofs.Ytfghjahmnjghgaa

/-! More words over Seq. -/
namespace Go.Proofs.Ytfghjahmnjghgaa
open Go.RowKit
/-- what was put to an operation's slot, the slot written out -/
theorem at_dst {P : Program} {md : Region.Mode} {ops : Array Oper} {Q : Exit → Act → World → Prop} {ds : List Nat} {B : Nat} {D : List DIt} {Lt : List Nat} {fuel : Nat} {l : Array Bool} {a : Act} {v : Value} {w : World} {M : Option Tmp} (N : Option Tmp) (h : M = N)
    (hk : wpB P md ops Q ds B D Lt fuel l (a.put N v) w) : wpB P md ops Q ds B D Lt fuel l (a.put M v) w := h ▸ hk
end Go.Proofs.Ytfghjahmnjghgaa

/-! A drawn region's order is checked by numbers' bits: fast for regions of many operations. -/
namespace Go.Proofs.Ytfghjahmnjghgaa
open Go.RowKit
def orM (ts : List Nat) : Nat := ts.foldr (fun t m => 2 ^ t ||| m) 0
theorem orM_bit {ts : List Nat} {t : Nat} (h : t ∈ ts) : (orM ts).testBit t = true := by
  induction ts with
  | nil => cases h
  | cons a r ih =>
    show (2 ^ a ||| orM r).testBit t = true
    rw [Nat.testBit_or, Nat.testBit_two_pow]
    rcases List.mem_cons.1 h with rfl | h
    · simp
    · rw [ih h, Bool.or_true]
theorem orM_mem {ts : List Nat} {t : Nat} (h : (orM ts).testBit t = true) : t ∈ ts := by
  induction ts with
  | nil => simp [orM] at h
  | cons a r ih =>
    have h : (2 ^ a ||| orM r).testBit t = true := h
    rw [Nat.testBit_or, Nat.testBit_two_pow, Bool.or_eq_true] at h
    rcases h with h | h
    · rw [of_decide_eq_true h]; exact List.mem_cons_self
    · exact List.mem_cons_of_mem _ (ih h)
theorem and_zero {a b t : Nat} (h : a &&& b = 0) (ha : a.testBit t = true) (hb : b.testBit t = true) : False := by
  have : (a &&& b).testBit t = true := by rw [Nat.testBit_and, ha, hb]; rfl
  rw [h] at this
  simp at this
theorem and_sub {a b t : Nat} (h : a &&& b = a) (ha : a.testBit t = true) : b.testBit t = true := by
  have : (a &&& b).testBit t = true := by rw [h]; exact ha
  rw [Nat.testBit_and, ha] at this
  simpa using this
section
variable {P : Program} {ops : Array Oper} {Q : Exit → Act → World → Prop} {md : Region.Mode} {ds : List Nat} {B : Nat} {D : List DIt} {Lt : List Nat}
def preM (md : Region.Mode) (o : Oper) : Nat := orM ((o.after.toList.filter (fun e => Region.binds md e)).map (·.on))
def useM (ops : Array Oper) (o : Oper) : Nat := orM (o.looksAt ops)
def dstM (o : Oper) : Nat := match o.dst with
  | some d => 2 ^ d
  | none => 0
abbrev Rec3 := Nat × Nat × Nat
def sumM (md : Region.Mode) (ops : Array Oper) : List Rec3 := ops.toList.map (fun o => (preM md o, useM ops o, dstM o))
def freeG (m i ui di : Nat) : List Rec3 → Nat → Bool
  | [], _ => true
  | x :: r, j => (Nat.testBit m j || Nat.testBit x.1 i || j == i || (x.2.1 &&& di == 0 && x.2.2 &&& di == 0 && x.2.2 &&& ui == 0)) && freeG m i ui di r (j + 1)
/-- all that are not listed and do not wait for i are apart from it (patterns of one level alone: the kernel is quick with them) -/
def freeS (m i ui di : Nat) (j : Nat) (S : List Rec3) : Bool := freeG m i ui di S j
theorem freeS_cons (m i ui di j : Nat) (x : Rec3) (r : List Rec3) : freeS m i ui di j (x :: r) = ((Nat.testBit m j || Nat.testBit x.1 i || j == i || (x.2.1 &&& di == 0 && x.2.2 &&& di == 0 && x.2.2 &&& ui == 0)) && freeS m i ui di (j + 1) r) := rfl
theorem freeS_spec {m i ui di : Nat} : ∀ (S : List Rec3) (j : Nat), freeS m i ui di j S = true → ∀ k x, S[k]? = some x →
    (Nat.testBit m (j + k) || Nat.testBit x.1 i || (j + k) == i || (x.2.1 &&& di == 0 && x.2.2 &&& di == 0 && x.2.2 &&& ui == 0)) = true
  | [], _, _, k, x, h => by simp at h
  | y :: r, j, h, 0, x, hx => by
    obtain rfl := Option.some.inj hx
    rw [freeS_cons, Bool.and_eq_true] at h
    exact h.1
  | y :: r, j, h, k + 1, x, hx => by
    rw [freeS_cons, Bool.and_eq_true] at h
    have := freeS_spec r (j + 1) h.2 k x (by simpa using hx)
    rwa [show j + 1 + k = j + (k + 1) by omega] at this
def stepS (S : List Rec3) (i m : Nat) : Bool := match S[i]? with
  | none => false
  | some x => !Nat.testBit m i && (x.1 &&& m == x.1) && freeS m i x.2.1 x.2.2 0 S
def seqG (md : Region.Mode) (ops : Array Oper) (ds : List Nat) (D Lt : List Nat) (S : List Rec3) : List (Nat × Bool × Option Tmp) → List Nat → Nat → Array Bool → Bool
  | [], _, _, _ => true
  | x :: r, ms, m, l => (!D.contains x.1 && (x.2.1 || !Lt.contains x.1) && (x.2.1 || ds.isEmpty || lastB md ops l ds x.1) && stepS S x.1 m && (m ||| 2 ^ x.1 == ms.headD 0)) && seqG md ops ds D Lt S r ms.tail (ms.headD 0) (l.setIfInBounds x.1 true)
def seqS (md : Region.Mode) (ops : Array Oper) (ds : List Nat) (D Lt : List Nat) (S : List Rec3) (is : List (Nat × Bool × Option Tmp)) (ms : List Nat) (m : Nat) (l : Array Bool) : Bool := seqG md ops ds D Lt S is ms m l
theorem seqS_cons (md : Region.Mode) (ops : Array Oper) (ds : List Nat) (D Lt : List Nat) (S : List Rec3) (i : Nat) (b : Bool) (N : Option Tmp) (r : List (Nat × Bool × Option Tmp)) (ms : List Nat) (m : Nat) (l : Array Bool) :
    seqS md ops ds D Lt S ((i, b, N) :: r) ms m l = ((!D.contains i && (b || !Lt.contains i) && (b || ds.isEmpty || lastB md ops l ds i) && stepS S i m && (m ||| 2 ^ i == ms.headD 0)) && seqS md ops ds D Lt S r ms.tail (ms.headD 0) (l.setIfInBounds i true)) := rfl
/-- the bits of m are the listed ones -/
def Ms (m : Nat) (l : Array Bool) : Prop := ∀ j, l.getD j false = m.testBit j
def msB (m : Nat) (l : Array Bool) : Bool := decide (m < 2 ^ l.size) && (List.range l.size).all (fun j => l.getD j false == m.testBit j)
theorem msB_spec {m : Nat} {l : Array Bool} (h : msB m l = true) : Ms m l := by
  simp only [msB, Bool.and_eq_true, decide_eq_true_eq, List.all_eq_true, List.mem_range, beq_iff_eq] at h
  intro j
  rcases Nat.lt_or_ge j l.size with hj | hj
  · exact h.2 j hj
  · rw [Nat.testBit_lt_two_pow (Nat.lt_of_lt_of_le h.1 (Nat.pow_le_pow_right (by decide) hj))]
    simp [Array.getElem?_eq_none hj]
theorem Ms.set {m i : Nat} {l : Array Bool} (h : Ms m l) (hi : i < l.size) : Ms (m ||| 2 ^ i) (l.setIfInBounds i true) := by
  intro j
  rw [Nat.testBit_or, Nat.testBit_two_pow]
  by_cases hij : i = j
  · subst hij
    simp [hi]
  · rw [getD_set_ne false hij, h j]
    simp [hij]
theorem sum_at {S : List Rec3} (hS : sumM md ops = S) {j : Nat} {o : Oper} (ho : ops[j]? = some o) : S[j]? = some (preM md o, useM ops o, dstM o) := by
  subst hS
  unfold sumM
  rw [List.getElem?_map, Array.getElem?_toList, ho]
  rfl
theorem stepS_spec {S : List Rec3} (hS : sumM md ops = S) {i m : Nat} {l : Array Bool} (hm : Ms m l) (hl : l.size = ops.size) (h : stepS S i m = true) :
    i ∈ Region.ready md ops l ∧ ∀ oi, ops[i]? = some oi → ∀ j oj, ops[j]? = some oj → j ≠ i → l.getD j true = false → (∀ e ∈ oj.after, Region.binds md e = true → e.on ≠ i) → oi.apart ops oj = true := by
  have hi : ∃ oi, ops[i]? = some oi := by
    rcases ho : ops[i]? with _ | o
    · exfalso
      have : S[i]? = none := by subst hS; unfold sumM; rw [List.getElem?_map, Array.getElem?_toList, ho]; rfl
      simp [stepS, this] at h
    · exact ⟨o, rfl⟩
  obtain ⟨oi, ho⟩ := hi
  have hs := sum_at hS ho
  simp only [stepS, hs, Bool.and_eq_true, beq_iff_eq] at h
  obtain ⟨⟨h1, h2⟩, h3⟩ := h
  have hlt : i < l.size := by rw [hl]; exact (Array.getElem?_eq_some_iff.1 ho).1
  refine ⟨mem_ready.2 ⟨?_, oi, ho, fun e he hb => ?_⟩, fun oi' ho' j oj hj hne hun hno => ?_⟩
  · have hf : l.getD i false = false := by rw [hm i]; simpa using h1
    simp [hlt] at hf ⊢
    exact hf
  · rw [hm e.on]
    exact and_sub h2 (orM_bit (List.mem_map.2 ⟨e, List.mem_filter.2 ⟨by simpa using he, hb⟩, rfl⟩))
  · obtain rfl := Option.some.inj (ho.symm.trans ho')
    have hf := freeS_spec S 0 h3 j _ (sum_at hS hj)
    rw [Nat.zero_add] at hf
    simp only [Bool.or_eq_true, Bool.and_eq_true, beq_iff_eq] at hf
    rcases hf with ((hf | hf) | hf) | hf
    · exfalso
      rw [← hm j] at hf
      have hj' : j < l.size := by rw [hl]; exact (Array.getElem?_eq_some_iff.1 hj).1
      simp [hj'] at hf hun
      rw [hf] at hun; cases hun
    · exfalso
      obtain ⟨e, he, hon⟩ := List.mem_map.1 (orM_mem hf)
      rw [List.mem_filter] at he
      exact hno e (by simpa using he.1) he.2 hon
    · exact absurd hf hne
    · obtain ⟨⟨f1, f2⟩, f3⟩ := hf
      unfold Oper.apart
      rw [Bool.and_eq_true]
      constructor
      · rcases hd : oi.dst with _ | d
        · rfl
        · have hb : (dstM oi).testBit d = true := by unfold dstM; rw [hd, Nat.testBit_two_pow]; simp
          simp only [Bool.and_eq_true, Bool.not_eq_true', bne_iff_ne, ne_eq]
          refine ⟨?_, fun he => ?_⟩
          · rw [← Bool.not_eq_true]
            intro hc
            exact and_zero f1 (orM_bit (List.contains_iff_mem.1 hc)) hb
          · exact and_zero f2 (by unfold dstM; rw [he, Nat.testBit_two_pow]; simp) hb
      · rcases hd : oj.dst with _ | d
        · rfl
        · have hb : (dstM oj).testBit d = true := by unfold dstM; rw [hd, Nat.testBit_two_pow]; simp
          simp only [Bool.not_eq_true']
          rw [← Bool.not_eq_true]
          intro hc
          exact and_zero f3 hb (orM_bit (List.contains_iff_mem.1 hc))
theorem kseqS {S : List Rec3} (hS : sumM md ops = S) (hns : Region.noSelect ops = true) (hDK : D = [] ∨ DOK P md ops ds D Lt) (hQ : ∀ (t : Tmp) v c a w, Q (.panic c) (Act.put a (some t) v) w → Q (.panic c) a w) (n : Nat) (w : World) (hB : B ≤ w.heap.size) :
    ∀ (is : List (Nat × Bool × Option Tmp)) (ms : List Nat) (m : Nat) (l : Array Bool) (a : Act), Ms m l → l.size = ops.size → LClosed md ops l → seqS md ops ds (D.map (·.1)) Lt S is ms m l = true →
    SeqG P ops B w (fun a' => wpB P md ops Q ds B D Lt n (markL l is) a' w) is a → wpB P md ops Q ds B D Lt (n + is.length) l a w
  | [], _, _, _, _, _, _, _, _, h => h
  | (i, b, N) :: r, ms, m, l, a, hm, hl, hcl, hc, h => by
    rw [seqS_cons] at hc
    simp only [Bool.and_eq_true, beq_iff_eq] at hc
    obtain ⟨⟨⟨⟨⟨h0, hL⟩, h5⟩, hst⟩, hmm⟩, h7⟩ := hc
    rw [← hmm] at h7
    obtain ⟨hr, hfr⟩ := stepS_spec hS hm hl hst
    have hlt : i < l.size := by
      obtain ⟨_, o, ho, _⟩ := mem_ready.1 hr
      rw [hl]; exact (Array.getElem?_eq_some_iff.1 ho).1
    have ih := kseqS hS hns hDK hQ n w hB r ms.tail (m ||| 2 ^ i) (l.setIfInBounds i true)
    cases b with
    | true =>
      obtain ⟨o, v, ho, rfl, hy, hrr⟩ := h
      exact wpB_any ho (Region.noSelect_spec hns) (putQ hQ _ _) hDK (n + r.length) l a w (hfr o ho) hcl (notD h0) hr hy hB
        (ih _ (hm.set hlt) (by simpa using hl) (hcl.set hr) h7 hrr)
    | false =>
      obtain ⟨o, v, ho, rfl, hy, hrr⟩ := h
      simp only [Bool.false_or, Bool.or_eq_true] at h5 hL
      refine wpB_first ho (Region.noSelect_spec hns) (putQ hQ _ _) ops.size (n + r.length) l a w (hfr o ho) hcl
        (fun d hd hun => ?_) ⟨notD h0, by simpa using hL⟩ hr hy hB (ih _ (hm.set hlt) (by simpa using hl) (hcl.set hr) h7 hrr)
      rcases h5 with h5 | h5
      · rw [List.isEmpty_iff] at h5
        rw [h5] at hd; cases hd
      · have := List.all_eq_true.1 h5 d hd
        rw [hun] at this
        simpa using this
def lastM : Nat → List Nat → Nat
  | m, [] => m
  | _, x :: r => lastM x r
theorem lastM_cons (m m' : Nat) (ms : List Nat) : lastM m (m' :: ms) = lastM m' ms := rfl
theorem markL_size : ∀ (is : List (Nat × Bool × Option Tmp)) (l : Array Bool), (markL l is).size = l.size
  | [], _ => rfl
  | (i, _) :: r, l => (markL_size r _).trans (by simp)
theorem markL_Ms {S : List Rec3} (hS : sumM md ops = S) : ∀ (is : List (Nat × Bool × Option Tmp)) (ms : List Nat) (m : Nat) (l : Array Bool), Ms m l → l.size = ops.size → is.length = ms.length → seqS md ops ds (D.map (·.1)) Lt S is ms m l = true → Ms (lastM m ms) (markL l is)
  | [], [], _, _, h, _, _, _ => h
  | [], _ :: _, _, _, _, _, hn, _ => by cases hn
  | _ :: _, [], _, _, _, _, hn, _ => by cases hn
  | (i, b, N) :: r, m' :: ms, m, l, h, hl, hn, hc => by
    rw [seqS_cons] at hc
    simp only [Bool.and_eq_true, beq_iff_eq, List.headD_cons, List.tail_cons] at hc
    obtain ⟨⟨⟨_, hst⟩, rfl⟩, h7⟩ := hc
    rw [lastM_cons]
    obtain ⟨hr, _⟩ := stepS_spec hS h hl hst
    have hlt : i < l.size := by
      obtain ⟨_, o, ho, _⟩ := mem_ready.1 hr
      rw [hl]; exact (Array.getElem?_eq_some_iff.1 ho).1
    exact markL_Ms hS r ms _ _ (h.set hlt) (by simpa using hl) (by simpa using hn) h7
theorem Ms_eq {m : Nat} {l l' : Array Bool} (h : Ms m l) (h' : Ms m l') (hs : l.size = l'.size) : l = l' := by
  refine Array.ext hs (fun i h1 h2 => ?_)
  have := (h i).trans (h' i).symm
  simpa [h1, h2] using this
theorem bseqS {fuel n : Nat} {l : Array Bool} {a : Act} {w : World} (S : List Rec3) (m m' : Nat) (ms : List Nat) (hS : sumM md ops = S) (hDK : D = [] ∨ DOK P md ops ds D Lt) (is : List (Nat × Bool × Option Tmp)) (l' : Array Bool) (hB : B ≤ w.heap.size)
    (hns : Region.noSelect ops = true) (hcl : closedB md ops l = true) (hml : ((msB m l && (l.size == ops.size)) && (msB m' l' && (l'.size == ops.size))) = true) (hc : (seqS md ops ds (D.map (·.1)) Lt S is ms m l && (is.length == ms.length) && (lastM m ms == m')) = true) (hf : n + is.length = fuel)
    (hQ : ∀ (t : Tmp) v c a w, Q (.panic c) (Act.put a (some t) v) w → Q (.panic c) a w) (h : SeqG P ops B w (fun a' => wpB P md ops Q ds B D Lt n l' a' w) is a) : wpB P md ops Q ds B D Lt fuel l a w := by
  subst hf
  simp only [Bool.and_eq_true, beq_iff_eq] at hc hml
  obtain ⟨⟨h1, hln⟩, h2⟩ := hc
  obtain ⟨⟨g1, g2⟩, g3, g4⟩ := hml
  have hM := markL_Ms hS is ms m l (msB_spec g1) g2 hln h1
  rw [h2] at hM
  obtain rfl : markL l is = l' := Ms_eq hM (msB_spec g3) (by rw [markL_size, g2, g4])
  exact kseqS hS hns hDK hQ n w hB is ms m l a (msB_spec g1) g2 (closedB_spec hcl) h1 h
theorem kallS {id n : Nat} {a : Act} {w : World} (S : List Rec3) (ms : List Nat) (is : List (Nat × Bool × Option Tmp)) (hm : P.follows .mixedOrders = true) (hn : ops.size = n) (hS : sumM .any ops = S) (hns : Region.noSelect ops = true)
    (hc : (seqS .any ops [] [] [] S is ms 0 (Array.replicate n false) && (is.length == ms.length) && (lastM 0 ms == 2 ^ n - 1)) = true) (hf : is.length = n)
    (hQ : ∀ (t : Tmp) v c a w, Q (.panic c) (Act.put a (some t) v) w → Q (.panic c) a w) (h : SeqG P ops w.heap.size w (fun a' => ∀ w1, Gr w w1 → Q .normal a' w1) is a) : (Code.region id ops true).wp P Q a w := by
  simp only [Bool.and_eq_true, beq_iff_eq] at hc
  have hM0 : Ms 0 (Array.replicate n false) := fun j => by rw [Nat.zero_testBit]; rcases Nat.lt_or_ge j n with h | h <;> simp [h]
  have hM := markL_Ms (ds := []) (D := []) (Lt := []) hS is ms 0 _ hM0 (by simp [hn]) hc.1.2 hc.1.1
  have hrd : Region.ready .any ops (markL (Array.replicate n false) is) = [] := by
    refine List.eq_nil_iff_forall_not_mem.2 (fun j hj => ?_)
    obtain ⟨h1, o, ho, _⟩ := mem_ready.1 hj
    have hlt : j < n := by rw [← hn]; exact (Array.getElem?_eq_some_iff.1 ho).1
    have hsz : j < (markL (Array.replicate n false) is).size := by rw [markL_size]; simpa using hlt
    have h2 := hM j
    rw [hc.2, Nat.testBit_two_pow_sub_one, decide_eq_true hlt] at h2
    simp [hsz] at h1 h2
    rw [h1] at h2; cases h2
  refine bstart (fun w => w.heap.size) (ds := []) _ hm hn rfl (Nat.le_refl _) (fun _ => ?_)
  have := kseqS (md := .any) (ds := []) (D := []) (Lt := []) hS hns (.inl rfl) hQ 0 w (Nat.le_refl _) is ms 0 _ a hM0 (by simp [hn]) (fun j oj hj hl => by
    exfalso
    rcases Nat.lt_or_ge j n with h | h <;> simp [h] at hl) hc.1.1 (P := P) (ops := ops) ?_
  · rw [Nat.zero_add, hf] at this; exact this
  · exact SeqG_mono (fun a' h' => bdone (by rw [hrd]; rfl) h') is a h
end
end Go.Proofs.Ytfghjahmnjghgaa

import Derived.Test.YtdmpnogjpgoaaaaWWords
import Derived.WalkKit
import Derived.WalkSpells
import Derived.WalkLawsBesides
import Derived.Lib.Hide
import Derived.Lib.Builder
import Derived.Lib.UnsafeStr
import Derived.Lib.AppendStr
import Derived.ArgAppend
import Derived.Test.YtdmpnogjpgoaaaaMa
import Derived.Deep.RegionHeld3
import Derived.Deep.QuietTactic
import Derived.BigQuiet
import Derived.Laws.Externs
namespace Go.Proofs.Ytdmpnogjpgoaaaa
open Go.RowKit Go.Proofs.YtdmpnogjpgoaaaaW.PrintWords
section
variable {P : Program} {ops : Array Oper} {rest : List Oper} {o : Oper} {a : Act} {Q : Exit → Act → World → Prop} {α : Type} {W : World}
theorem gate_builtin {b : Builtin} {xs : Array Operand} {ts : Array TypeId} (_ho : o.op = .call { callee := .builtin b, args := xs, argTypes := ts }) (h : wpList P ops Q (o :: rest) a W) : wpList P ops Q (o :: rest) a W := h
/-- append(v, x) onto a row of the call's own; x's cells are cs and hold no rows. -/
theorem app1 (d : Kd α) {w0 W : World} (s x : Operand) (t e : TypeId) (z : Value) (bytes : Nat) (hgd : o.guard = none)
    (ho : o.op = .call { callee := .builtin .append, args := #[s, x], argTypes := #[t, t] })
    (ht : P.underlying t = some (.slice e)) (hinfo : (P.info? e).map (fun i => (i.zero, i.size, i.bytes)) = some (some z, d.sz, bytes)) (hz : z.cells.size = d.sz) (hs0 : 0 < d.sz) (hb0 : 0 < bytes)
    (v : Value) (xs : List α) (p : α) (cs : List Value) (hs : a.eval s = v) (hx : a.eval x = .slice (some ⟨W.heap.size, 0, none⟩) 1 1) (hp : d.M W w0.heap.size (fun _ => False) p cs)
    (HO : Aside0 (d.R e W w0.heap.size (fun _ => True) v xs)) (HB : Aside0 (Below w0.heap.size w0 W)) (hl : (xs.length + 1) * bytes ≤ 140737488355328)
    (h : ∀ v1 w1, Aside0 (d.R e w1 w0.heap.size (fun _ => True) v1 (xs ++ [p])) → Aside0 (Below w0.heap.size w0 w1) → wpList P ops Q rest (a.put o.dst v1) w1) :
    wpList P ops Q (o :: rest) a (W.alloc (.cells cs.toArray e)) :=
  Kd.R_append d w0.heap.size hgd s x t e z bytes ho ht hinfo hz hs0 hb0 v xs p cs (fun _ => True) (fun _ => False) hs hx hp (fun _ hk => hk.elim) (fun _ _ => trivial) HO.out HB.out HB.out.size hl
    (fun v1 w1 h1 h2 _ _ => h v1 w1 ⟨h1⟩ ⟨h2⟩)
end
/-- Closes 'Below B w0 W' for a W that is reached by new blocks and draws. -/
theorem asideBelow {w w' : World} (h : Below w.heap.size w w') : Aside0 (Below w.heap.size w w') := ⟨h⟩
theorem R_new_lit {α : Type} {enc : α → Value} {h1 : ∀ x, (enc x).oneCell' = true} (W : World) (base e : Nat) (xs : List α) (hb : base ≤ W.heap.size) (hm : xs.length ≤ 9223372036854775807) :
    (Kd.scalar enc h1).R e (W.alloc (.cells (xs.map enc).toArray e)) base (fun _ => True) (.slice (some ⟨W.heap.size, 0, none⟩) xs.length xs.length) xs := by
  refine Kd.R_of_own ?_ (fun _ _ => trivial)
  have h2 := World.ownsRow_lit (base := base) (e := e) (size := 1) W (xs.map enc).toArray xs.length hb (by simpa [maxLen] using hm) (by simp)
  simpa [encs] using h2
/-- A struct of scalars alone: its cells written out. -/
def flat {α : Type} (n : Nat) (enc : α → List Value) (hl : ∀ x, (enc x).length = n) (h1 : ∀ x, ∀ u ∈ enc x, u.oneCell' = true) : Kd α where
  sz := n
  E := []
  K := fun _ x cs => cs = enc x
  M := fun _ _ _ x cs => cs = enc x
  K_len := fun h => by rw [h]; exact hl _
  K_one := fun h => by rw [h]; exact h1 _
  K_below := fun _ h => h
  K_of_M := fun h => h
  M_mono := fun _ h => h
  M_bound := fun h => h
  M_move := fun _ h => h
  M_lower := fun _ h => h
theorem take_next {α : Type} {xs : List α} {k : Nat} {p : α} (h : xs[k]? = some p) : xs.take (k + 1) = xs.take k ++ [p] := by
  obtain ⟨hl, rfl⟩ := List.getElem?_eq_some_iff.1 h
  exact List.take_succ_eq_append_getElem hl
theorem bldAt_below {T e : TypeId} {B b : Nat} {p : Value} {bs : List Value} {w w' : World} (h : Lib.BuilderAt T e B b p bs w) (hb : Below w.heap.size w w') : Lib.BuilderAt T e B b p bs w' := by
  obtain ⟨hB, v, hh, hown, hne⟩ := h
  exact ⟨hB, v, (hb.block b (blk_lt hh)).trans hh, pw_own_below hown hb, hne⟩
theorem bld_below {T e : TypeId} {B b : Nat} {bs : List Value} {w w' : World} (h : Lib.IsBuilder T e B b bs w) (hb : Below w.heap.size w w') : Lib.IsBuilder T e B b bs w' :=
  h.imp (fun h => bldAt_below h hb) (fun h => bldAt_below h hb)
theorem ret_congr {a b : Value} (h : a = b) : Ending.returned a = Ending.returned b := by rw [h]
theorem cells_str (l : List UInt8) (s : ByteArray) : Lib.byteCells (l ++ s.data.toList) = Lib.byteCells l ++ Lib.strCells s := by simp [Lib.byteCells, Lib.strCells]
/-- A row of flat structs read at k. -/
theorem flat_at {α : Type} {m : Nat} {enc : α → List Value} {hl : ∀ x, (enc x).length = m} {h1 : ∀ x, ∀ u ∈ enc x, u.oneCell' = true} {w : World} {A : Option Addr} {n : Nat} {xs : List α}
    (h : (flat m enc hl h1).C w A n xs) (i : Nat) (hi : i < n) : ∃ ad p, A = some ad ∧ xs[i]? = some p ∧ ∀ j u, (enc p)[j]? = some u → w.cell? (ad.add (i * m + j)) = some u := by
  obtain ⟨ad, e, hc⟩ := h.2.2 (by omega)
  have hlt : i < xs.length := by have := h.1; omega
  obtain ⟨c, hs, hr, hcell⟩ := hc i _ (List.getElem?_eq_getElem hlt)
  have hr' : c = enc xs[i] := hr
  subst hr'
  exact ⟨ad, xs[i], e, List.getElem?_eq_getElem hlt, hcell⟩
theorem alloc_cell {w : World} {a : Addr} {v : Value} (h : w.cell? a = some v) (o : Obj) : (w.alloc o).cell? a = some v := pw_cell_below (below_alloc (Below.refl _ _) o) h
theorem int_beq (a b : Nat) : ((a : Int) == (b : Int)) = (a == b) := by rw [Bool.eq_iff_iff, beq_iff_eq, beq_iff_eq]; omega
theorem mk_append (a b : List UInt8) : (⟨a.toArray⟩ : ByteArray) ++ ⟨b.toArray⟩ = ⟨(a ++ b).toArray⟩ := by
  apply ByteArray.ext; simp
/-- 'string([]byte{x})'. -/
theorem conv_lit1 {P : Program} {src dst e : TypeId} (hs : P.underlying src = some (.slice e)) (he : P.underlying e = some (.int .u8)) (hd : P.underlying dst = some .string) (W : World) (x : Int) :
    (convert src dst (.slice (some ⟨W.heap.size, 0, none⟩) 1 1)).run P (W.alloc (.cells #[.int .u8 x] e)) = .ok (.string ⟨[UInt8.ofNat x.toNat].toArray⟩) (W.alloc (.cells #[.int .u8 x] e)) :=
  own_string hs he hd (Kd.own_of_R (h1 := fun _ => rfl) (ok := fun _ => True) (R_new_lit W W.heap.size e [x] (Nat.le_refl _) (by simp)))
theorem zip_take {α β : Type} {xs : List α} {ys : List β} {k : Nat} {p : α} {q : β} (hx : xs[k]? = some p) (hy : ys[k]? = some q) (f : α × β → Bool) : ((xs.take (k+1)).zip (ys.take (k+1))).all f = (((xs.take k).zip (ys.take k)).all f && f (p, q)) := by
  obtain ⟨hl, _⟩ := List.getElem?_eq_some_iff.1 hx
  obtain ⟨hl', _⟩ := List.getElem?_eq_some_iff.1 hy
  rw [take_next hx, take_next hy, List.zip_append (by simp; omega)]
  simp
theorem R_empty_lit {α : Type} (d : Kd α) (W : World) (base e : Nat) (hb : base ≤ W.heap.size) :
    d.R e (W.alloc (.cells #[] e)) base (fun _ => True) (.slice (some ⟨W.heap.size, 0, none⟩) 0 0) [] := by
  refine ⟨fun _ _ => trivial, [], ?_, ⟨by simp, fun j p h => by simp at h⟩⟩
  have h2 := World.ownsRow_lit (base := base) (e := e) (size := d.sz) W #[] 0 hb (by simp [maxLen]) (by simp)
  simpa using h2
section
variable {P : Program} {ops : Array Oper} {rest : List Oper} {o : Oper} {a : Act} {Q : Exit → Act → World → Prop} {α : Type} {W : World}
/-- append(v, ys...) onto a row of the call's own; ys is read, of a kind that holds no rows. -/
theorem app_rows (d : Kd α) {w0 : World} (s x : Operand) (t e : TypeId) (z : Value) (bytes : Nat) (hgd : o.guard = none)
    (ho : o.op = .call { callee := .builtin .append, args := #[s, x], argTypes := #[t, t] })
    (ht : P.underlying t = some (.slice e)) (hinfo : (P.info? e).map (fun i => (i.zero, i.size, i.bytes)) = some (some z, d.sz, bytes)) (hz : z.cells.size = d.sz) (hs0 : 0 < d.sz) (hb0 : 0 < bytes)
    (hKM : ∀ x cs, d.K W x cs → d.M W w0.heap.size (fun _ => False) x cs)
    (v : Value) (xs ys : List α) (A : Option Addr) (m c : Nat) (hs : a.eval s = v) (hx : a.eval x = .slice A m c)
    (HO : Aside0 (d.R e W w0.heap.size (fun _ => True) v xs)) (HR : d.C W A m ys) (HB : Aside0 (Below w0.heap.size w0 W)) (hl : (xs.length + m) * bytes ≤ 140737488355328)
    (h : ∀ v1 w1, Aside0 (d.R e w1 w0.heap.size (fun _ => True) v1 (xs ++ ys)) → Aside0 (Below w0.heap.size w0 w1) → W.grownBy w1 v.ownBlock → wpList P ops Q rest (a.put o.dst v1) w1) :
    wpList P ops Q (o :: rest) a W :=
  Kd.R_append_rows d w0.heap.size hgd s x t e z bytes ho ht hinfo hz hs0 hb0 v xs ys A m c (fun _ => True) (fun _ => False) hs hx HO.out HR hKM (fun _ hk => hk.elim) (fun _ _ => trivial) HB.out HB.out.size hl
    (fun v1 w1 h1 h2 h3 _ => h v1 w1 ⟨h1⟩ ⟨h2⟩ h3)
end
end Go.Proofs.Ytdmpnogjpgoaaaa

namespace Go.Proofs.Ytdmpnogjpgoaaaa
open Go.RowKit Go.Proofs.YtdmpnogjpgoaaaaW.PrintWords
theorem reps_one {α : Type} {R : α → List Value → Prop} {size : Nat} {ps : List α} {cs : List Value} (h : Reps R size ps cs) (hs0 : 0 < size) (hR : ∀ p c, R p c → ∀ u ∈ c, u.oneCell' = true) : ∀ u ∈ cs, u.oneCell' = true := by
  intro u hu
  obtain ⟨q, hq, rfl⟩ := List.mem_iff_getElem.1 hu
  have hql : q / size < ps.length := by
    rw [Nat.div_lt_iff_lt_mul hs0, ← h.1]; exact hq
  refine hR _ _ (h.2 (q / size) _ (List.getElem?_eq_getElem hql)) _ ?_
  rw [List.mem_iff_getElem?]
  refine ⟨q % size, ?_⟩
  rw [List.getElem?_take, if_pos (Nat.mod_lt _ hs0), List.getElem?_drop, Nat.mul_comm, Nat.div_add_mod, List.getElem?_eq_getElem hq]
/-- A slice value that reads as xs. -/
def Out {α : Type} (d : Kd α) (w : World) (v : Value) (xs : List α) : Prop := ∃ A c, v = .slice A xs.length c ∧ xs.length ≤ c ∧ c ≤ 9223372036854775807 ∧ d.C w A xs.length xs
theorem Out.below {α : Type} {d : Kd α} {w w' : World} {v : Value} {xs : List α} (h : Out d w v xs) (hb : Below w.heap.size w w') : Out d w' v xs := by
  obtain ⟨A, c, rfl, h1, h2, h3⟩ := h
  exact ⟨A, c, rfl, h1, h2, Kd.C_below h3 hb⟩
theorem Out_nil {α : Type} (d : Kd α) (w : World) : Out d w (.slice none 0 0) [] := ⟨none, 0, rfl, Nat.le_refl _, by omega, Kd.C_nil d w⟩
theorem C_box {α : Type} {d : Kd α} {W : World} {p : α} {cs : List Value} (e : TypeId) (h : d.K (W.alloc (.cells cs.toArray e)) p cs) : d.C (W.alloc (.cells cs.toArray e)) (some ⟨W.heap.size, 0, none⟩) 1 [p] := by
  refine ⟨rfl, by omega, fun _ => ⟨_, rfl, fun j q hj => ?_⟩⟩
  rcases j with _ | j
  · have hq : p = q := by simpa using hj
    subst hq
    refine ⟨cs, d.K_len h, h, fun i u hu => ?_⟩
    rw [Nat.zero_mul, Nat.zero_add]
    exact World.news_of_block (cs := cs.toArray) (t := e) (fr := (0, 0)) (heap_alloc_new W (.cells cs.toArray e)) i u (by simpa using hu)
  · simp at hj
theorem keep1 {w w' : World} {a0 : Addr} {v0 : Value} (hb : Below w.heap.size w w') (h : w.cell? a0 = some v0) : w'.cell? a0 = some v0 := pw_cell_below hb h
theorem keep2 {w w' : World} {a0 a1 : Addr} {v0 v1 : Value} (hb : Below w.heap.size w w') (h : w.cell? a0 = some v0 ∧ w.cell? a1 = some v1) : w'.cell? a0 = some v0 ∧ w'.cell? a1 = some v1 := by
  obtain ⟨h0, h1⟩ := h
  exact ⟨pw_cell_below hb h0, pw_cell_below hb h1⟩
theorem keep3 {w w' : World} {a0 a1 a2 : Addr} {v0 v1 v2 : Value} (hb : Below w.heap.size w w') (h : w.cell? a0 = some v0 ∧ w.cell? a1 = some v1 ∧ w.cell? a2 = some v2) : w'.cell? a0 = some v0 ∧ w'.cell? a1 = some v1 ∧ w'.cell? a2 = some v2 := by
  obtain ⟨h0, h1, h2⟩ := h
  exact ⟨pw_cell_below hb h0, pw_cell_below hb h1, pw_cell_below hb h2⟩
theorem keep4 {w w' : World} {a0 a1 a2 a3 : Addr} {v0 v1 v2 v3 : Value} (hb : Below w.heap.size w w') (h : w.cell? a0 = some v0 ∧ w.cell? a1 = some v1 ∧ w.cell? a2 = some v2 ∧ w.cell? a3 = some v3) : w'.cell? a0 = some v0 ∧ w'.cell? a1 = some v1 ∧ w'.cell? a2 = some v2 ∧ w'.cell? a3 = some v3 := by
  obtain ⟨h0, h1, h2, h3⟩ := h
  exact ⟨pw_cell_below hb h0, pw_cell_below hb h1, pw_cell_below hb h2, pw_cell_below hb h3⟩
theorem keep5 {w w' : World} {a0 a1 a2 a3 a4 : Addr} {v0 v1 v2 v3 v4 : Value} (hb : Below w.heap.size w w') (h : w.cell? a0 = some v0 ∧ w.cell? a1 = some v1 ∧ w.cell? a2 = some v2 ∧ w.cell? a3 = some v3 ∧ w.cell? a4 = some v4) : w'.cell? a0 = some v0 ∧ w'.cell? a1 = some v1 ∧ w'.cell? a2 = some v2 ∧ w'.cell? a3 = some v3 ∧ w'.cell? a4 = some v4 := by
  obtain ⟨h0, h1, h2, h3, h4⟩ := h
  exact ⟨pw_cell_below hb h0, pw_cell_below hb h1, pw_cell_below hb h2, pw_cell_below hb h3, pw_cell_below hb h4⟩
theorem keep6 {w w' : World} {a0 a1 a2 a3 a4 a5 : Addr} {v0 v1 v2 v3 v4 v5 : Value} (hb : Below w.heap.size w w') (h : w.cell? a0 = some v0 ∧ w.cell? a1 = some v1 ∧ w.cell? a2 = some v2 ∧ w.cell? a3 = some v3 ∧ w.cell? a4 = some v4 ∧ w.cell? a5 = some v5) : w'.cell? a0 = some v0 ∧ w'.cell? a1 = some v1 ∧ w'.cell? a2 = some v2 ∧ w'.cell? a3 = some v3 ∧ w'.cell? a4 = some v4 ∧ w'.cell? a5 = some v5 := by
  obtain ⟨h0, h1, h2, h3, h4, h5⟩ := h
  exact ⟨pw_cell_below hb h0, pw_cell_below hb h1, pw_cell_below hb h2, pw_cell_below hb h3, pw_cell_below hb h4, pw_cell_below hb h5⟩
theorem keep7 {w w' : World} {a0 a1 a2 a3 a4 a5 a6 : Addr} {v0 v1 v2 v3 v4 v5 v6 : Value} (hb : Below w.heap.size w w') (h : w.cell? a0 = some v0 ∧ w.cell? a1 = some v1 ∧ w.cell? a2 = some v2 ∧ w.cell? a3 = some v3 ∧ w.cell? a4 = some v4 ∧ w.cell? a5 = some v5 ∧ w.cell? a6 = some v6) : w'.cell? a0 = some v0 ∧ w'.cell? a1 = some v1 ∧ w'.cell? a2 = some v2 ∧ w'.cell? a3 = some v3 ∧ w'.cell? a4 = some v4 ∧ w'.cell? a5 = some v5 ∧ w'.cell? a6 = some v6 := by
  obtain ⟨h0, h1, h2, h3, h4, h5, h6⟩ := h
  exact ⟨pw_cell_below hb h0, pw_cell_below hb h1, pw_cell_below hb h2, pw_cell_below hb h3, pw_cell_below hb h4, pw_cell_below hb h5, pw_cell_below hb h6⟩
theorem keep8 {w w' : World} {a0 a1 a2 a3 a4 a5 a6 a7 : Addr} {v0 v1 v2 v3 v4 v5 v6 v7 : Value} (hb : Below w.heap.size w w') (h : w.cell? a0 = some v0 ∧ w.cell? a1 = some v1 ∧ w.cell? a2 = some v2 ∧ w.cell? a3 = some v3 ∧ w.cell? a4 = some v4 ∧ w.cell? a5 = some v5 ∧ w.cell? a6 = some v6 ∧ w.cell? a7 = some v7) : w'.cell? a0 = some v0 ∧ w'.cell? a1 = some v1 ∧ w'.cell? a2 = some v2 ∧ w'.cell? a3 = some v3 ∧ w'.cell? a4 = some v4 ∧ w'.cell? a5 = some v5 ∧ w'.cell? a6 = some v6 ∧ w'.cell? a7 = some v7 := by
  obtain ⟨h0, h1, h2, h3, h4, h5, h6, h7⟩ := h
  exact ⟨pw_cell_below hb h0, pw_cell_below hb h1, pw_cell_below hb h2, pw_cell_below hb h3, pw_cell_below hb h4, pw_cell_below hb h5, pw_cell_below hb h6, pw_cell_below hb h7⟩
section
variable {P : Program} {ops : Array Oper} {rest : List Oper} {o : Oper} {a : Act} {Q : Exit → Act → World → Prop} {α : Type} {W : World}
/-- append(v, ys...) onto a full slice (of whomever): a new row. -/
theorem run_app_full (d : Kd α) (t ty e : TypeId) (z : Value) (bytes : Nat)
    (ht : P.underlying t = some (.slice e)) (hinfo : (P.info? e).map (fun i => (i.zero, i.size, i.bytes)) = some (some z, d.sz, bytes)) (hz : z.cells.size = d.sz) (hs0 : 0 < d.sz) (hb0 : 0 < bytes)
    (A : Option Addr) (n cap : Nat) (xs : List α) (hC : d.C W A n xs) (hn : A = none → n = 0 ∧ cap = 0)
    (Ax : Option Addr) (m c : Nat) (ys : List α) (hC2 : d.C W Ax m ys) (hm : cap < n + m) (hm0 : 0 < m) (hl : (n + m) * bytes ≤ 140737488355328) :
    ∃ v1 w1, (Builtin.append_ #[t, t] ty #[.slice A n cap, .slice Ax m c]).run P W = .ok v1 w1 ∧ Out d w1 v1 (xs ++ ys) ∧ Below W.heap.size W w1 := by
  obtain ⟨i0, hi, hzz⟩ := Option.map_eq_some_iff.1 hinfo
  simp only [Prod.mk.injEq] at hzz
  obtain ⟨hz0, hz1, hz2⟩ := hzz
  have hlen : n + m ≤ 140737488355328 := Nat.le_trans (Nat.le_mul_of_pos_right _ hb0) hl
  obtain ⟨adx, rfl, _⟩ := hC2.2.2 hm0
  obtain ⟨news, hr2, hc2⟩ := ReadsRow.inner_ hC2
  have hny : ys.length = m := hC2.1
  have hnx : xs.length = n := hC.1
  have hxy : (xs ++ ys).length = n + m := by rw [List.length_append, hnx, hny]
  have fin : ∀ v1 w1 (olds : List Value), Reps (d.K W) d.sz xs olds → w1.ownsRow W.heap.size e d.sz v1 (n + m) (olds ++ news) → W.grownBy w1 none → Out d w1 v1 (xs ++ ys) ∧ Below W.heap.size W w1 := by
    intro v1 w1 olds hr1 hown hg
    have hb : Below W.heap.size W w1 := (Below.refl _ _).grown hg (Nat.le_refl _) (fun k hk => by cases hk)
    refine ⟨?_, hb⟩
    obtain ⟨A1, c1, rfl, hr⟩ := own_reads_row hown ((Kd.reps_append hr1 hr2).imp_ (fun p c hk => d.K_below hb hk)) hxy
    have hcc : n + m ≤ c1 ∧ c1 ≤ 9223372036854775807 := by
      rcases hown.2 with ⟨he, h0⟩ | ⟨g, cap, cur, he, _, _, h2, h3, _⟩
      · omega
      · injection he with _ _ he
        subst he
        exact ⟨h2, by simpa [maxLen] using h3⟩
    refine ⟨A1, c1, by rw [hxy], by omega, hcc.2, ?_⟩
    rw [hxy]; exact hr
  cases A with
  | none =>
    obtain ⟨rfl, rfl⟩ := hn rfl
    obtain rfl : xs = [] := List.eq_nil_of_length_eq_zero hnx
    obtain ⟨v1, w1, hrun, h1, h2, _⟩ := run_append_own (P := P) W W.heap.size t ty e i0 z d.sz bytes ht hi hz0 hz1 hz2 hz hs0 (.slice none 0 0) 0 [] (World.ownsRow_nil _ _ _ _) adx m c news (by rw [hr2.1, hny]) hc2 (reps_one hr2 hs0 (fun p c hk => d.K_one hk)) (by simp only [maxLen]; omega) hl (Nat.le_refl _)
    exact ⟨v1, w1, hrun, fin v1 w1 [] (Reps.none _ _) h1 h2⟩
  | some b =>
    obtain ⟨olds, hr1, hc1⟩ := ReadsRow.inner_ hC
    obtain ⟨v1, w1, hrun, h1, h2⟩ := run_append_arg_grows (P := P) W t ty e i0 z d.sz bytes ht hi hz0 hz1 hz2 hz hs0 b n cap olds (by rw [hr1.1, hnx]) hc1 adx m c news (by rw [hr2.1, hny]) hc2 hm (by simp only [maxLen]; omega) hl
    exact ⟨v1, w1, hrun, fin v1 w1 olds hr1 h1 h2⟩
theorem app_full (d : Kd α) (s x : Operand) (t e : TypeId) (z : Value) (bytes : Nat) (hgd : o.guard = none)
    (ho : o.op = .call { callee := .builtin .append, args := #[s, x], argTypes := #[t, t] })
    (ht : P.underlying t = some (.slice e)) (hinfo : (P.info? e).map (fun i => (i.zero, i.size, i.bytes)) = some (some z, d.sz, bytes)) (hz : z.cells.size = d.sz) (hs0 : 0 < d.sz) (hb0 : 0 < bytes)
    (A : Option Addr) (n cap : Nat) (xs : List α) (hs : a.eval s = .slice A n cap) (hC : d.C W A n xs) (hn : A = none → n = 0 ∧ cap = 0)
    (Ax : Option Addr) (m c : Nat) (ys : List α) (hx : a.eval x = .slice Ax m c) (hC2 : d.C W Ax m ys) (hm : cap < n + m) (hm0 : 0 < m) (hl : (n + m) * bytes ≤ 140737488355328)
    (h : ∀ v1 w1, Out d w1 v1 (xs ++ ys) → Below W.heap.size W w1 → wpList P ops Q rest (a.put o.dst v1) w1) :
    wpList P ops Q (o :: rest) a W := by
  obtain ⟨v1, w1, hrun, h1, h2⟩ := run_app_full (P := P) d t o.type e z bytes ht hinfo hz hs0 hb0 A n cap xs hC hn Ax m c ys hC2 hm hm0 hl
  refine wpList_plain hgd fun K hK => ?_
  unfold Oper.wp execOp
  simp only [ho, resolve, invoke, builtin, Sem.run_bind, Sem.run_pure, Result.andThen_ok, List.map_toArray, List.map_cons, List.map_nil, hs, hx, hrun]
  exact hK _ _ (h v1 w1 h1 h2)
/-- The same as a step of a region that draws its order. -/
theorem app_full_step (d : Kd α) {Kc : Act → World → Prop} {N : Option Tmp} (s x : Operand) (t e : TypeId) (z : Value) (bytes : Nat) (hw : Region.wanted o (yielded ops a.tmps) = true) (hN : o.dst = N)
    (ho : o.op = .call { callee := .builtin .append, args := #[s, x], argTypes := #[t, t] })
    (ht : P.underlying t = some (.slice e)) (hinfo : (P.info? e).map (fun i => (i.zero, i.size, i.bytes)) = some (some z, d.sz, bytes)) (hz : z.cells.size = d.sz) (hs0 : 0 < d.sz) (hb0 : 0 < bytes)
    (A : Option Addr) (n cap : Nat) (xs : List α) (hs : a.eval s = .slice A n cap) (hC : d.C W A n xs) (hn : A = none → n = 0 ∧ cap = 0)
    (Ax : Option Addr) (m c : Nat) (ys : List α) (hx : a.eval x = .slice Ax m c) (hC2 : d.C W Ax m ys) (hm : cap < n + m) (hm0 : 0 < m) (hl : (n + m) * bytes ≤ 140737488355328)
    (h : ∀ v1 w1, Out d w1 v1 (xs ++ ys) → Below W.heap.size W w1 → Kc (a.put N v1) w1) :
    if Region.wanted o (yielded ops a.tmps) = true then Oper.wp P o a W Kc Q else Kc (a.put N undef) W := by
  obtain ⟨v1, w1, hrun, h1, h2⟩ := run_app_full (P := P) d t o.type e z bytes ht hinfo hz hs0 hb0 A n cap xs hC hn Ax m c ys hC2 hm hm0 hl
  rw [if_pos hw]
  subst hN
  unfold Oper.wp execOp
  simp only [ho, resolve, invoke, builtin, Sem.run_bind, Sem.run_pure, Result.andThen_ok, List.map_toArray, List.map_cons, List.map_nil, hs, hx, hrun]
  exact h v1 w1 h1 h2
/-- append(v, ys...) where ys is empty: v itself. -/
theorem run_app_none (t ty e : TypeId) (ht : P.underlying t = some (.slice e)) (hinfo : (P.info? e).isSome = true)
    (A : Option Addr) (n cap : Nat) (hnc : n ≤ cap) (hn : A = none → n = 0) (Ax : Option Addr) (c : Nat) :
    (Builtin.append_ #[t, t] ty #[.slice A n cap, .slice Ax 0 c]).run P W = .ok (.slice A n cap) W := by
  obtain ⟨i0, hi⟩ := Option.isSome_iff_exists.1 hinfo
  cases A with
  | none =>
    obtain rfl := hn rfl
    cases Ax <;> simp [Builtin.append_, run_underlying ht, sizeOf, typeInfo, hi, Builtin.lenOf, Builtin.firstCells, hnc, loadCells, loadCellsFrom]
  | some b =>
    cases Ax <;> simp [Builtin.append_, run_underlying ht, sizeOf, typeInfo, hi, Builtin.lenOf, Builtin.firstCells, hnc, storeCells, loadCells, loadCellsFrom]
theorem app_none_step {Kc : Act → World → Prop} {N : Option Tmp} (s x : Operand) (t e : TypeId) (hw : Region.wanted o (yielded ops a.tmps) = true) (hN : o.dst = N)
    (ho : o.op = .call { callee := .builtin .append, args := #[s, x], argTypes := #[t, t] })
    (ht : P.underlying t = some (.slice e)) (hinfo : (P.info? e).isSome = true)
    (A : Option Addr) (n cap : Nat) (hs : a.eval s = .slice A n cap) (hnc : n ≤ cap) (hn : A = none → n = 0) (Ax : Option Addr) (c : Nat) (hx : a.eval x = .slice Ax 0 c)
    (h : Kc (a.put N (.slice A n cap)) W) :
    if Region.wanted o (yielded ops a.tmps) = true then Oper.wp P o a W Kc Q else Kc (a.put N undef) W := by
  have hrun := run_app_none (P := P) (W := W) t o.type e ht hinfo A n cap hnc hn Ax c
  rw [if_pos hw]
  subst hN
  unfold Oper.wp execOp
  simp only [ho, resolve, invoke, builtin, Sem.run_bind, Sem.run_pure, Result.andThen_ok, List.map_toArray, List.map_cons, List.map_nil, hs, hx, hrun]
  exact h
end
theorem C_drop {α : Type} {d : Kd α} {ad : Addr} {n : Nat} {xs : List α} {w : World} (h : d.C w (some ad) n xs) (k : Nat) (hk : k ≤ n) : d.C w (some (ad.add (k * d.sz))) (n - k) (xs.drop k) := by
  obtain ⟨h1, h2, h3⟩ := h
  refine ⟨by simp; omega, by omega, fun hp => ?_⟩
  obtain ⟨ad', e, hc⟩ := h3 (by omega)
  injection e with e
  subst e
  refine ⟨_, rfl, fun j p hj => ?_⟩
  obtain ⟨c, hl, hK, hcell⟩ := hc (k + j) p (by rw [List.getElem?_drop] at hj; exact hj)
  refine ⟨c, hl, hK, fun i u hu => ?_⟩
  rw [add_add, show k * d.sz + (j * d.sz + i) = (k + j) * d.sz + i by rw [Nat.add_mul]; omega]
  exact hcell i u hu
theorem C_take {α : Type} {d : Kd α} {A : Option Addr} {n : Nat} {xs : List α} {w : World} (h : d.C w A n xs) (k : Nat) (hk : k ≤ n) : d.C w A k (xs.take k) := by
  obtain ⟨h1, h2, h3⟩ := h
  refine ⟨by simp; omega, by omega, fun hp => ?_⟩
  obtain ⟨ad, e, hc⟩ := h3 (by omega)
  exact ⟨ad, e, fun j p hj => hc j p (by rw [List.getElem?_take] at hj; split at hj <;> first | exact hj | cases hj)⟩
end Go.Proofs.Ytdmpnogjpgoaaaa

set_option linter.unusedSimpArgs false
namespace Go.Proofs.Ytdmpnogjpgoaaaa
open Go.RowKit Go.Proofs.YtdmpnogjpgoaaaaW.PrintWords Go.Proofs.YtdmpnogjpgoaaaaW.PrintLast Go.Proofs.YtdmpnogjpgoaaaaW.PrintMore
set_option maxHeartbeats 400000 in
set_option maxRecDepth 100000 in
theorem of_any (s : ByteArray) (hs : s.size = 32) (w : World) :
    Calls Try.prog 55 #[.string s] w fun e w' => e = .returned (.agg (aggN (leV s))) ∧ Below w.heap.size w w' := by
  have hu65 := Try.underlying67
  go_enter Try.func55, Try.ntmps55
  go_wp2
  go_loopw [7] (fun i wr => ∃ k : Nat, k ≤ 32 ∧ i = .int .i64 k ∧ Aside0 (wr.heap[w.heap.size + 1]? = some (.cells (aggN (valB ((bytesOf s).take k))) 67 (0, 0))) ∧ Aside0 (wr.heap[w.heap.size]? = some (.cells #[.int .u64 0, .int .u64 0, .int .u64 0, .int .u64 0] 67 (0, 0))) ∧ Aside0 (Below w.heap.size w wr)) (fun i _ => (32 - intOf i).toNat)
  case atStart =>
    refine ⟨0, by omega, rfl, ⟨?_⟩, ⟨blk_alloc (heap_alloc_new w _) _⟩, ⟨below_alloc (below_alloc (Below.refl _ _) _) _⟩⟩
    rw [show w.heap.size + 1 = (w.alloc (.cells #[.int .u64 0, .int .u64 0, .int .u64 0, .int .u64 0] 67)).heap.size by simp]
    exact (heap_alloc_new _ _).trans (congrArg (fun c => some (Obj.cells c 67 (0, 0))) (by simp [aggN, valB, wd]))
  case round =>
    obtain ⟨k, hk, rfl, HB, HB0, HBel⟩ := hrel
    by_cases hlt : k < 32
    · have hkl : k < (bytesOf s).length := by rw [bytesOf_len]; omega
      have hbt := bt_eq s k _ (List.getElem?_eq_getElem hkl)
      have hb256 := bytesOf_lt s _ (List.getElem_mem hkl)
      have hst := Lib.hid (valB_take (List.getElem?_eq_getElem hkl))
      have hvl := Lib.hid (valB_take_lt (bytesOf_lt s) k (by omega))
      have hgb : (s[k]'(by omega)).toNat = (bytesOf s)[k] := by simp [bytesOf]; rfl
      generalize valB ((bytesOf s).take k) = v at HB hst hvl
      generalize (bytesOf s)[k] = b at hbt hb256 hst hgb
      have hks : k < s.size := by omega
      have hksI : (k : Int) < s.size := by omega
      rcases (show k < 8 ∨ (8 ≤ k ∧ k < 16) ∨ (16 ≤ k ∧ k < 24) ∨ (24 ≤ k ∧ k < 32) by omega) with hq | hq | hq | hq
      · have hdiv : Int.tdiv (k : Int) 8 = 0 := by show ((k / 8 : Nat) : Int) = 0; omega
        obtain ⟨r, hr0, hr8⟩ : ∃ r, k = 0 + r ∧ r < 8 := ⟨k - 0, by omega, by omega⟩
        have hr := Lib.hid hr0
        have hmod : Int.tmod (k : Int) 8 = (r : Int) := by show ((k % 8 : Nat) : Int) = _; omega
        clear hr0
        have hwq : wrap64 (0 : Int) = 0 := wri (by omega)
        have hw8 : wrap64 (8 * (r : Int)) = 8 * (r : Int) := wri (by omega)
        have h8a : (0 : Int) ≤ 8 * (r : Int) := by omega
        have h8b : 8 * (r : Int) ≤ 64 := by omega
        have h8c : 8 * (r : Int) < 64 := by omega
        have c0 : wr.cell? ⟨w.heap.size + 1, 0, none⟩ = some (.int .u64 (wd v 0)) := by rw [blk_cell HB.out]; rfl
        have f0 := blk_frozen HB.out 0
        go_wp2_with fail
        refine start_ (n := 15) (S := (fun w' => w'.cell? ⟨w.heap.size + 1, 0, none⟩ = some (.int .u64 (wd v 0)) ∧ w'.frozen? ⟨w.heap.size + 1, 0, none⟩ = false)) (ds := [14]) #[false, false, false, false, false, false, false, false, false, false, false, false, false, false, false] (by kernel_rfl) rfl rfl ⟨c0, f0⟩ (fun hHeld => ?_)
        refine pure_ (i := 0) (N := (some 10)) (v := ?_) (a' := ?_) #[true, false, false, false, false, false, false, false, false, false, false, false, false, false, false] rfl rfl (by kernel_rfl) (fun _ _ _ h => h) (Or.inl ⟨by rfl, ?_⟩) ?_ ?_
        rotate_left
        · intro w'; go_simp; with_reducible rfl
        rotate_left
        · simp only [Act.put, List.setIfInBounds_toArray, List.set_cons_zero, List.set_cons_succ, i64_w, i32_w]; rfl
        refine pure_ (i := 1) (N := (some 11)) (v := ?_) (a' := ?_) #[true, true, false, false, false, false, false, false, false, false, false, false, false, false, false] rfl rfl (by kernel_rfl) (fun _ _ _ h => h) (Or.inl ⟨by rfl, ?_⟩) ?_ ?_
        rotate_left
        · intro w'; go_simp; with_reducible rfl
        rotate_left
        · simp only [Act.put, List.setIfInBounds_toArray, List.set_cons_zero, List.set_cons_succ, i64_w, i32_w]; rfl
        refine pure_ (i := 2) (N := (some 12)) (v := ?_) (a' := ?_) #[true, true, true, false, false, false, false, false, false, false, false, false, false, false, false] rfl rfl (by kernel_rfl) (fun _ _ _ h => h) (Or.inl ⟨by rfl, ?_⟩) ?_ ?_
        rotate_left
        · intro w'; go_simp; with_reducible rfl
        rotate_left
        · simp only [Act.put, List.setIfInBounds_toArray, List.set_cons_zero, List.set_cons_succ, i64_w, i32_w]; rfl
        refine pure_ (i := 4) (N := (some 14)) (v := ?_) (a' := ?_) #[true, true, true, false, true, false, false, false, false, false, false, false, false, false, false] rfl rfl (by kernel_rfl) (fun _ _ _ h => h) (Or.inl ⟨by rfl, ?_⟩) ?_ ?_
        rotate_left
        · intro w'; go_simp; with_reducible rfl
        rotate_left
        · simp only [Act.put, List.setIfInBounds_toArray, List.set_cons_zero, List.set_cons_succ, i64_w, i32_w]; rfl
        refine pure_ (i := 5) (N := (some 15)) (v := ?_) (a' := ?_) #[true, true, true, false, true, true, false, false, false, false, false, false, false, false, false] rfl rfl (by kernel_rfl) (fun _ _ _ h => h) (Or.inl ⟨by rfl, ?_⟩) ?_ ?_
        rotate_left
        · intro w'; go_simp; with_reducible rfl
        rotate_left
        · simp only [Act.put, List.setIfInBounds_toArray, List.set_cons_zero, List.set_cons_succ, i64_w, i32_w]; rfl
        refine pure_ (i := 6) (N := (some 16)) (v := ?_) (a' := ?_) #[true, true, true, false, true, true, true, false, false, false, false, false, false, false, false] rfl rfl (by kernel_rfl) (fun _ _ _ h => h) (Or.inl ⟨by rfl, ?_⟩) ?_ ?_
        rotate_left
        · intro w'; go_simp; with_reducible rfl
        rotate_left
        · simp only [Act.put, List.setIfInBounds_toArray, List.set_cons_zero, List.set_cons_succ, i64_w, i32_w]; rfl
        refine pure_ (i := 7) (N := (some 17)) (v := ?_) (a' := ?_) #[true, true, true, false, true, true, true, true, false, false, false, false, false, false, false] rfl rfl (by kernel_rfl) (fun _ _ _ h => h) (Or.inl ⟨by rfl, ?_⟩) ?_ ?_
        rotate_left
        · intro w'; go_simp; with_reducible rfl
        rotate_left
        · simp only [Act.put, List.setIfInBounds_toArray, List.set_cons_zero, List.set_cons_succ, i64_w, i32_w]; rfl
        refine pure_ (i := 8) (N := (some 18)) (v := ?_) (a' := ?_) #[true, true, true, false, true, true, true, true, true, false, false, false, false, false, false] rfl rfl (by kernel_rfl) (fun _ _ _ h => h) (Or.inl ⟨by rfl, ?_⟩) ?_ ?_
        rotate_left
        · intro w'; go_simp; with_reducible rfl
        rotate_left
        · simp only [Act.put, List.setIfInBounds_toArray, List.set_cons_zero, List.set_cons_succ, i64_w, i32_w]; rfl
        refine pure_ (i := 9) (N := (some 19)) (v := ?_) (a' := ?_) #[true, true, true, false, true, true, true, true, true, true, false, false, false, false, false] rfl rfl (by kernel_rfl) (fun _ _ _ h => h) (Or.inl ⟨by rfl, ?_⟩) ?_ ?_
        rotate_left
        · intro w'; go_simp; with_reducible rfl
        rotate_left
        · simp only [Act.put, List.setIfInBounds_toArray, List.set_cons_zero, List.set_cons_succ, i64_w, i32_w]; rfl
        refine pure_ (i := 10) (N := (some 20)) (v := ?_) (a' := ?_) #[true, true, true, false, true, true, true, true, true, true, true, false, false, false, false] rfl rfl (by kernel_rfl) (fun _ _ _ h => h) (Or.inl ⟨by rfl, ?_⟩) ?_ ?_
        rotate_left
        · intro w'; go_simp; with_reducible rfl
        rotate_left
        · simp only [Act.put, List.setIfInBounds_toArray, List.set_cons_zero, List.set_cons_succ, i64_w, i32_w]; rfl
        refine pure_ (i := 11) (N := (some 21)) (v := ?_) (a' := ?_) #[true, true, true, false, true, true, true, true, true, true, true, true, false, false, false] rfl rfl (by kernel_rfl) (fun _ _ _ h => h) (Or.inl ⟨by rfl, ?_⟩) ?_ ?_
        rotate_left
        · intro w'; go_simp; with_reducible rfl
        rotate_left
        · simp only [Act.put, List.setIfInBounds_toArray, List.set_cons_zero, List.set_cons_succ, i64_w, i32_w]; rfl
        refine take_ (i := 3) (N := (some 13)) (v := ?_) (a' := ?_) #[true, true, true, true, true, true, true, true, true, true, true, true, false, false, false] rfl rfl (by kernel_rfl) (fun _ _ _ h => h) (Or.inl ⟨by rfl, ?_⟩) hHeld ?_ ?_
        rotate_left
        · rintro w' ⟨s0, s1⟩; go_simp; with_reducible rfl
        rotate_left
        · simp only [Act.put, List.setIfInBounds_toArray, List.set_cons_zero, List.set_cons_succ, i64_w, i32_w]; rfl
        refine pure_ (i := 12) (N := (some 22)) (v := ?_) (a' := ?_) #[true, true, true, true, true, true, true, true, true, true, true, true, true, false, false] rfl rfl (by kernel_rfl) (fun _ _ _ h => h) (Or.inl ⟨by rfl, ?_⟩) ?_ ?_
        rotate_left
        · intro w'; go_simp; with_reducible rfl
        rotate_left
        · simp only [Act.put, List.setIfInBounds_toArray, List.set_cons_zero, List.set_cons_succ, i64_w, i32_w]; rfl
        refine pure_ (i := 13) (N := (some 23)) (v := ?_) (a' := ?_) #[true, true, true, true, true, true, true, true, true, true, true, true, true, true, false] rfl rfl (by kernel_rfl) (fun _ _ _ h => h) (Or.inl ⟨by rfl, ?_⟩) ?_ ?_
        rotate_left
        · intro w'; go_simp; with_reducible rfl
        rotate_left
        · simp only [Act.put, List.setIfInBounds_toArray, List.set_cons_zero, List.set_cons_succ, i64_w, i32_w]; rfl
        refine last_ (i := 14) (N := none) #[true, true, true, true, true, true, true, true, true, true, true, true, true, true, true] rfl rfl (by kernel_rfl) (by decide) (fun K hK => ?_)
        refine skip_ (w1 := ?_) (by rfl) rfl ?_ ?_
        rotate_left
        · go_simp; rfl
        refine hK.out _ _ ?_
        clear hK K
        refine done_ (by kernel_rfl) ?_
        obtain ⟨hwx, hwd⟩ := wd_at (b := b) hr8 hb256 (show v < 256 ^ (8 * 0 + r) by rw [← hr.out]; exact hvl.out)
        have hbv := or_add hwx hr8 hb256
        rw [hbv]
        clear hbv hwx
        have HWD := Lib.hid hwd
        clear hwd
        go_wp2
        refine ⟨⟨k + 1, by omega, by go_num, ⟨?_⟩, ⟨?_⟩, ⟨?_⟩⟩, by simp [intOf]; omega⟩
        · refine (blk_drew (blk_set HB.out 0 _)).trans ?_
          rw [hst.out]
          congr 2
          rw [hr.out]
          unfold aggN
          rw [HWD.out, wd_above (q := 0) (j := 1) (by omega) hr8 hb256 (show v < 256 ^ (8 * 0 + r) by rw [← hr.out]; exact hvl.out), wd_above (q := 0) (j := 2) (by omega) hr8 hb256 (show v < 256 ^ (8 * 0 + r) by rw [← hr.out]; exact hvl.out), wd_above (q := 0) (j := 3) (by omega) hr8 hb256 (show v < 256 ^ (8 * 0 + r) by rw [← hr.out]; exact hvl.out)]
          rfl
        · refine blk_drew ?_
          rw [Below.heap_setCell _ _ _ _ (by simp)]
          exact HB0.out
        · exact below_drew (below_set HBel.out (Nat.le_succ _))
      
      · have hdiv : Int.tdiv (k : Int) 8 = 1 := by show ((k / 8 : Nat) : Int) = 1; omega
        obtain ⟨r, hr0, hr8⟩ : ∃ r, k = 8 + r ∧ r < 8 := ⟨k - 8, by omega, by omega⟩
        have hr := Lib.hid hr0
        have hmod : Int.tmod (k : Int) 8 = (r : Int) := by show ((k % 8 : Nat) : Int) = _; omega
        clear hr0
        have hwq : wrap64 (1 : Int) = 1 := wri (by omega)
        have hw8 : wrap64 (8 * (r : Int)) = 8 * (r : Int) := wri (by omega)
        have h8a : (0 : Int) ≤ 8 * (r : Int) := by omega
        have h8b : 8 * (r : Int) ≤ 64 := by omega
        have h8c : 8 * (r : Int) < 64 := by omega
        have c0 : wr.cell? ⟨w.heap.size + 1, 1, none⟩ = some (.int .u64 (wd v 1)) := by rw [blk_cell HB.out]; rfl
        have f0 := blk_frozen HB.out 1
        go_wp2_with fail
        refine start_ (n := 15) (S := (fun w' => w'.cell? ⟨w.heap.size + 1, 1, none⟩ = some (.int .u64 (wd v 1)) ∧ w'.frozen? ⟨w.heap.size + 1, 1, none⟩ = false)) (ds := [14]) #[false, false, false, false, false, false, false, false, false, false, false, false, false, false, false] (by kernel_rfl) rfl rfl ⟨c0, f0⟩ (fun hHeld => ?_)
        refine pure_ (i := 0) (N := (some 10)) (v := ?_) (a' := ?_) #[true, false, false, false, false, false, false, false, false, false, false, false, false, false, false] rfl rfl (by kernel_rfl) (fun _ _ _ h => h) (Or.inl ⟨by rfl, ?_⟩) ?_ ?_
        rotate_left
        · intro w'; go_simp; with_reducible rfl
        rotate_left
        · simp only [Act.put, List.setIfInBounds_toArray, List.set_cons_zero, List.set_cons_succ, i64_w, i32_w]; rfl
        refine pure_ (i := 1) (N := (some 11)) (v := ?_) (a' := ?_) #[true, true, false, false, false, false, false, false, false, false, false, false, false, false, false] rfl rfl (by kernel_rfl) (fun _ _ _ h => h) (Or.inl ⟨by rfl, ?_⟩) ?_ ?_
        rotate_left
        · intro w'; go_simp; with_reducible rfl
        rotate_left
        · simp only [Act.put, List.setIfInBounds_toArray, List.set_cons_zero, List.set_cons_succ, i64_w, i32_w]; rfl
        refine pure_ (i := 2) (N := (some 12)) (v := ?_) (a' := ?_) #[true, true, true, false, false, false, false, false, false, false, false, false, false, false, false] rfl rfl (by kernel_rfl) (fun _ _ _ h => h) (Or.inl ⟨by rfl, ?_⟩) ?_ ?_
        rotate_left
        · intro w'; go_simp; with_reducible rfl
        rotate_left
        · simp only [Act.put, List.setIfInBounds_toArray, List.set_cons_zero, List.set_cons_succ, i64_w, i32_w]; rfl
        refine pure_ (i := 4) (N := (some 14)) (v := ?_) (a' := ?_) #[true, true, true, false, true, false, false, false, false, false, false, false, false, false, false] rfl rfl (by kernel_rfl) (fun _ _ _ h => h) (Or.inl ⟨by rfl, ?_⟩) ?_ ?_
        rotate_left
        · intro w'; go_simp; with_reducible rfl
        rotate_left
        · simp only [Act.put, List.setIfInBounds_toArray, List.set_cons_zero, List.set_cons_succ, i64_w, i32_w]; rfl
        refine pure_ (i := 5) (N := (some 15)) (v := ?_) (a' := ?_) #[true, true, true, false, true, true, false, false, false, false, false, false, false, false, false] rfl rfl (by kernel_rfl) (fun _ _ _ h => h) (Or.inl ⟨by rfl, ?_⟩) ?_ ?_
        rotate_left
        · intro w'; go_simp; with_reducible rfl
        rotate_left
        · simp only [Act.put, List.setIfInBounds_toArray, List.set_cons_zero, List.set_cons_succ, i64_w, i32_w]; rfl
        refine pure_ (i := 6) (N := (some 16)) (v := ?_) (a' := ?_) #[true, true, true, false, true, true, true, false, false, false, false, false, false, false, false] rfl rfl (by kernel_rfl) (fun _ _ _ h => h) (Or.inl ⟨by rfl, ?_⟩) ?_ ?_
        rotate_left
        · intro w'; go_simp; with_reducible rfl
        rotate_left
        · simp only [Act.put, List.setIfInBounds_toArray, List.set_cons_zero, List.set_cons_succ, i64_w, i32_w]; rfl
        refine pure_ (i := 7) (N := (some 17)) (v := ?_) (a' := ?_) #[true, true, true, false, true, true, true, true, false, false, false, false, false, false, false] rfl rfl (by kernel_rfl) (fun _ _ _ h => h) (Or.inl ⟨by rfl, ?_⟩) ?_ ?_
        rotate_left
        · intro w'; go_simp; with_reducible rfl
        rotate_left
        · simp only [Act.put, List.setIfInBounds_toArray, List.set_cons_zero, List.set_cons_succ, i64_w, i32_w]; rfl
        refine pure_ (i := 8) (N := (some 18)) (v := ?_) (a' := ?_) #[true, true, true, false, true, true, true, true, true, false, false, false, false, false, false] rfl rfl (by kernel_rfl) (fun _ _ _ h => h) (Or.inl ⟨by rfl, ?_⟩) ?_ ?_
        rotate_left
        · intro w'; go_simp; with_reducible rfl
        rotate_left
        · simp only [Act.put, List.setIfInBounds_toArray, List.set_cons_zero, List.set_cons_succ, i64_w, i32_w]; rfl
        refine pure_ (i := 9) (N := (some 19)) (v := ?_) (a' := ?_) #[true, true, true, false, true, true, true, true, true, true, false, false, false, false, false] rfl rfl (by kernel_rfl) (fun _ _ _ h => h) (Or.inl ⟨by rfl, ?_⟩) ?_ ?_
        rotate_left
        · intro w'; go_simp; with_reducible rfl
        rotate_left
        · simp only [Act.put, List.setIfInBounds_toArray, List.set_cons_zero, List.set_cons_succ, i64_w, i32_w]; rfl
        refine pure_ (i := 10) (N := (some 20)) (v := ?_) (a' := ?_) #[true, true, true, false, true, true, true, true, true, true, true, false, false, false, false] rfl rfl (by kernel_rfl) (fun _ _ _ h => h) (Or.inl ⟨by rfl, ?_⟩) ?_ ?_
        rotate_left
        · intro w'; go_simp; with_reducible rfl
        rotate_left
        · simp only [Act.put, List.setIfInBounds_toArray, List.set_cons_zero, List.set_cons_succ, i64_w, i32_w]; rfl
        refine pure_ (i := 11) (N := (some 21)) (v := ?_) (a' := ?_) #[true, true, true, false, true, true, true, true, true, true, true, true, false, false, false] rfl rfl (by kernel_rfl) (fun _ _ _ h => h) (Or.inl ⟨by rfl, ?_⟩) ?_ ?_
        rotate_left
        · intro w'; go_simp; with_reducible rfl
        rotate_left
        · simp only [Act.put, List.setIfInBounds_toArray, List.set_cons_zero, List.set_cons_succ, i64_w, i32_w]; rfl
        refine take_ (i := 3) (N := (some 13)) (v := ?_) (a' := ?_) #[true, true, true, true, true, true, true, true, true, true, true, true, false, false, false] rfl rfl (by kernel_rfl) (fun _ _ _ h => h) (Or.inl ⟨by rfl, ?_⟩) hHeld ?_ ?_
        rotate_left
        · rintro w' ⟨s0, s1⟩; go_simp; with_reducible rfl
        rotate_left
        · simp only [Act.put, List.setIfInBounds_toArray, List.set_cons_zero, List.set_cons_succ, i64_w, i32_w]; rfl
        refine pure_ (i := 12) (N := (some 22)) (v := ?_) (a' := ?_) #[true, true, true, true, true, true, true, true, true, true, true, true, true, false, false] rfl rfl (by kernel_rfl) (fun _ _ _ h => h) (Or.inl ⟨by rfl, ?_⟩) ?_ ?_
        rotate_left
        · intro w'; go_simp; with_reducible rfl
        rotate_left
        · simp only [Act.put, List.setIfInBounds_toArray, List.set_cons_zero, List.set_cons_succ, i64_w, i32_w]; rfl
        refine pure_ (i := 13) (N := (some 23)) (v := ?_) (a' := ?_) #[true, true, true, true, true, true, true, true, true, true, true, true, true, true, false] rfl rfl (by kernel_rfl) (fun _ _ _ h => h) (Or.inl ⟨by rfl, ?_⟩) ?_ ?_
        rotate_left
        · intro w'; go_simp; with_reducible rfl
        rotate_left
        · simp only [Act.put, List.setIfInBounds_toArray, List.set_cons_zero, List.set_cons_succ, i64_w, i32_w]; rfl
        refine last_ (i := 14) (N := none) #[true, true, true, true, true, true, true, true, true, true, true, true, true, true, true] rfl rfl (by kernel_rfl) (by decide) (fun K hK => ?_)
        refine skip_ (w1 := ?_) (by rfl) rfl ?_ ?_
        rotate_left
        · go_simp; rfl
        refine hK.out _ _ ?_
        clear hK K
        refine done_ (by kernel_rfl) ?_
        obtain ⟨hwx, hwd⟩ := wd_at (b := b) hr8 hb256 (show v < 256 ^ (8 * 1 + r) by rw [← hr.out]; exact hvl.out)
        have hbv := or_add hwx hr8 hb256
        rw [hbv]
        clear hbv hwx
        have HWD := Lib.hid hwd
        clear hwd
        go_wp2
        refine ⟨⟨k + 1, by omega, by go_num, ⟨?_⟩, ⟨?_⟩, ⟨?_⟩⟩, by simp [intOf]; omega⟩
        · refine (blk_drew (blk_set HB.out 1 _)).trans ?_
          rw [hst.out]
          congr 2
          rw [hr.out]
          unfold aggN
          rw [HWD.out, wd_below (q := 1) (j := 0) (by omega), wd_above (q := 1) (j := 2) (by omega) hr8 hb256 (show v < 256 ^ (8 * 1 + r) by rw [← hr.out]; exact hvl.out), wd_above (q := 1) (j := 3) (by omega) hr8 hb256 (show v < 256 ^ (8 * 1 + r) by rw [← hr.out]; exact hvl.out)]
          rfl
        · refine blk_drew ?_
          rw [Below.heap_setCell _ _ _ _ (by simp)]
          exact HB0.out
        · exact below_drew (below_set HBel.out (Nat.le_succ _))
      
      · have hdiv : Int.tdiv (k : Int) 8 = 2 := by show ((k / 8 : Nat) : Int) = 2; omega
        obtain ⟨r, hr0, hr8⟩ : ∃ r, k = 16 + r ∧ r < 8 := ⟨k - 16, by omega, by omega⟩
        have hr := Lib.hid hr0
        have hmod : Int.tmod (k : Int) 8 = (r : Int) := by show ((k % 8 : Nat) : Int) = _; omega
        clear hr0
        have hwq : wrap64 (2 : Int) = 2 := wri (by omega)
        have hw8 : wrap64 (8 * (r : Int)) = 8 * (r : Int) := wri (by omega)
        have h8a : (0 : Int) ≤ 8 * (r : Int) := by omega
        have h8b : 8 * (r : Int) ≤ 64 := by omega
        have h8c : 8 * (r : Int) < 64 := by omega
        have c0 : wr.cell? ⟨w.heap.size + 1, 2, none⟩ = some (.int .u64 (wd v 2)) := by rw [blk_cell HB.out]; rfl
        have f0 := blk_frozen HB.out 2
        go_wp2_with fail
        refine start_ (n := 15) (S := (fun w' => w'.cell? ⟨w.heap.size + 1, 2, none⟩ = some (.int .u64 (wd v 2)) ∧ w'.frozen? ⟨w.heap.size + 1, 2, none⟩ = false)) (ds := [14]) #[false, false, false, false, false, false, false, false, false, false, false, false, false, false, false] (by kernel_rfl) rfl rfl ⟨c0, f0⟩ (fun hHeld => ?_)
        refine pure_ (i := 0) (N := (some 10)) (v := ?_) (a' := ?_) #[true, false, false, false, false, false, false, false, false, false, false, false, false, false, false] rfl rfl (by kernel_rfl) (fun _ _ _ h => h) (Or.inl ⟨by rfl, ?_⟩) ?_ ?_
        rotate_left
        · intro w'; go_simp; with_reducible rfl
        rotate_left
        · simp only [Act.put, List.setIfInBounds_toArray, List.set_cons_zero, List.set_cons_succ, i64_w, i32_w]; rfl
        refine pure_ (i := 1) (N := (some 11)) (v := ?_) (a' := ?_) #[true, true, false, false, false, false, false, false, false, false, false, false, false, false, false] rfl rfl (by kernel_rfl) (fun _ _ _ h => h) (Or.inl ⟨by rfl, ?_⟩) ?_ ?_
        rotate_left
        · intro w'; go_simp; with_reducible rfl
        rotate_left
        · simp only [Act.put, List.setIfInBounds_toArray, List.set_cons_zero, List.set_cons_succ, i64_w, i32_w]; rfl
        refine pure_ (i := 2) (N := (some 12)) (v := ?_) (a' := ?_) #[true, true, true, false, false, false, false, false, false, false, false, false, false, false, false] rfl rfl (by kernel_rfl) (fun _ _ _ h => h) (Or.inl ⟨by rfl, ?_⟩) ?_ ?_
        rotate_left
        · intro w'; go_simp; with_reducible rfl
        rotate_left
        · simp only [Act.put, List.setIfInBounds_toArray, List.set_cons_zero, List.set_cons_succ, i64_w, i32_w]; rfl
        refine pure_ (i := 4) (N := (some 14)) (v := ?_) (a' := ?_) #[true, true, true, false, true, false, false, false, false, false, false, false, false, false, false] rfl rfl (by kernel_rfl) (fun _ _ _ h => h) (Or.inl ⟨by rfl, ?_⟩) ?_ ?_
        rotate_left
        · intro w'; go_simp; with_reducible rfl
        rotate_left
        · simp only [Act.put, List.setIfInBounds_toArray, List.set_cons_zero, List.set_cons_succ, i64_w, i32_w]; rfl
        refine pure_ (i := 5) (N := (some 15)) (v := ?_) (a' := ?_) #[true, true, true, false, true, true, false, false, false, false, false, false, false, false, false] rfl rfl (by kernel_rfl) (fun _ _ _ h => h) (Or.inl ⟨by rfl, ?_⟩) ?_ ?_
        rotate_left
        · intro w'; go_simp; with_reducible rfl
        rotate_left
        · simp only [Act.put, List.setIfInBounds_toArray, List.set_cons_zero, List.set_cons_succ, i64_w, i32_w]; rfl
        refine pure_ (i := 6) (N := (some 16)) (v := ?_) (a' := ?_) #[true, true, true, false, true, true, true, false, false, false, false, false, false, false, false] rfl rfl (by kernel_rfl) (fun _ _ _ h => h) (Or.inl ⟨by rfl, ?_⟩) ?_ ?_
        rotate_left
        · intro w'; go_simp; with_reducible rfl
        rotate_left
        · simp only [Act.put, List.setIfInBounds_toArray, List.set_cons_zero, List.set_cons_succ, i64_w, i32_w]; rfl
        refine pure_ (i := 7) (N := (some 17)) (v := ?_) (a' := ?_) #[true, true, true, false, true, true, true, true, false, false, false, false, false, false, false] rfl rfl (by kernel_rfl) (fun _ _ _ h => h) (Or.inl ⟨by rfl, ?_⟩) ?_ ?_
        rotate_left
        · intro w'; go_simp; with_reducible rfl
        rotate_left
        · simp only [Act.put, List.setIfInBounds_toArray, List.set_cons_zero, List.set_cons_succ, i64_w, i32_w]; rfl
        refine pure_ (i := 8) (N := (some 18)) (v := ?_) (a' := ?_) #[true, true, true, false, true, true, true, true, true, false, false, false, false, false, false] rfl rfl (by kernel_rfl) (fun _ _ _ h => h) (Or.inl ⟨by rfl, ?_⟩) ?_ ?_
        rotate_left
        · intro w'; go_simp; with_reducible rfl
        rotate_left
        · simp only [Act.put, List.setIfInBounds_toArray, List.set_cons_zero, List.set_cons_succ, i64_w, i32_w]; rfl
        refine pure_ (i := 9) (N := (some 19)) (v := ?_) (a' := ?_) #[true, true, true, false, true, true, true, true, true, true, false, false, false, false, false] rfl rfl (by kernel_rfl) (fun _ _ _ h => h) (Or.inl ⟨by rfl, ?_⟩) ?_ ?_
        rotate_left
        · intro w'; go_simp; with_reducible rfl
        rotate_left
        · simp only [Act.put, List.setIfInBounds_toArray, List.set_cons_zero, List.set_cons_succ, i64_w, i32_w]; rfl
        refine pure_ (i := 10) (N := (some 20)) (v := ?_) (a' := ?_) #[true, true, true, false, true, true, true, true, true, true, true, false, false, false, false] rfl rfl (by kernel_rfl) (fun _ _ _ h => h) (Or.inl ⟨by rfl, ?_⟩) ?_ ?_
        rotate_left
        · intro w'; go_simp; with_reducible rfl
        rotate_left
        · simp only [Act.put, List.setIfInBounds_toArray, List.set_cons_zero, List.set_cons_succ, i64_w, i32_w]; rfl
        refine pure_ (i := 11) (N := (some 21)) (v := ?_) (a' := ?_) #[true, true, true, false, true, true, true, true, true, true, true, true, false, false, false] rfl rfl (by kernel_rfl) (fun _ _ _ h => h) (Or.inl ⟨by rfl, ?_⟩) ?_ ?_
        rotate_left
        · intro w'; go_simp; with_reducible rfl
        rotate_left
        · simp only [Act.put, List.setIfInBounds_toArray, List.set_cons_zero, List.set_cons_succ, i64_w, i32_w]; rfl
        refine take_ (i := 3) (N := (some 13)) (v := ?_) (a' := ?_) #[true, true, true, true, true, true, true, true, true, true, true, true, false, false, false] rfl rfl (by kernel_rfl) (fun _ _ _ h => h) (Or.inl ⟨by rfl, ?_⟩) hHeld ?_ ?_
        rotate_left
        · rintro w' ⟨s0, s1⟩; go_simp; with_reducible rfl
        rotate_left
        · simp only [Act.put, List.setIfInBounds_toArray, List.set_cons_zero, List.set_cons_succ, i64_w, i32_w]; rfl
        refine pure_ (i := 12) (N := (some 22)) (v := ?_) (a' := ?_) #[true, true, true, true, true, true, true, true, true, true, true, true, true, false, false] rfl rfl (by kernel_rfl) (fun _ _ _ h => h) (Or.inl ⟨by rfl, ?_⟩) ?_ ?_
        rotate_left
        · intro w'; go_simp; with_reducible rfl
        rotate_left
        · simp only [Act.put, List.setIfInBounds_toArray, List.set_cons_zero, List.set_cons_succ, i64_w, i32_w]; rfl
        refine pure_ (i := 13) (N := (some 23)) (v := ?_) (a' := ?_) #[true, true, true, true, true, true, true, true, true, true, true, true, true, true, false] rfl rfl (by kernel_rfl) (fun _ _ _ h => h) (Or.inl ⟨by rfl, ?_⟩) ?_ ?_
        rotate_left
        · intro w'; go_simp; with_reducible rfl
        rotate_left
        · simp only [Act.put, List.setIfInBounds_toArray, List.set_cons_zero, List.set_cons_succ, i64_w, i32_w]; rfl
        refine last_ (i := 14) (N := none) #[true, true, true, true, true, true, true, true, true, true, true, true, true, true, true] rfl rfl (by kernel_rfl) (by decide) (fun K hK => ?_)
        refine skip_ (w1 := ?_) (by rfl) rfl ?_ ?_
        rotate_left
        · go_simp; rfl
        refine hK.out _ _ ?_
        clear hK K
        refine done_ (by kernel_rfl) ?_
        obtain ⟨hwx, hwd⟩ := wd_at (b := b) hr8 hb256 (show v < 256 ^ (8 * 2 + r) by rw [← hr.out]; exact hvl.out)
        have hbv := or_add hwx hr8 hb256
        rw [hbv]
        clear hbv hwx
        have HWD := Lib.hid hwd
        clear hwd
        go_wp2
        refine ⟨⟨k + 1, by omega, by go_num, ⟨?_⟩, ⟨?_⟩, ⟨?_⟩⟩, by simp [intOf]; omega⟩
        · refine (blk_drew (blk_set HB.out 2 _)).trans ?_
          rw [hst.out]
          congr 2
          rw [hr.out]
          unfold aggN
          rw [HWD.out, wd_below (q := 2) (j := 0) (by omega), wd_below (q := 2) (j := 1) (by omega), wd_above (q := 2) (j := 3) (by omega) hr8 hb256 (show v < 256 ^ (8 * 2 + r) by rw [← hr.out]; exact hvl.out)]
          rfl
        · refine blk_drew ?_
          rw [Below.heap_setCell _ _ _ _ (by simp)]
          exact HB0.out
        · exact below_drew (below_set HBel.out (Nat.le_succ _))
      
      · have hdiv : Int.tdiv (k : Int) 8 = 3 := by show ((k / 8 : Nat) : Int) = 3; omega
        obtain ⟨r, hr0, hr8⟩ : ∃ r, k = 24 + r ∧ r < 8 := ⟨k - 24, by omega, by omega⟩
        have hr := Lib.hid hr0
        have hmod : Int.tmod (k : Int) 8 = (r : Int) := by show ((k % 8 : Nat) : Int) = _; omega
        clear hr0
        have hwq : wrap64 (3 : Int) = 3 := wri (by omega)
        have hw8 : wrap64 (8 * (r : Int)) = 8 * (r : Int) := wri (by omega)
        have h8a : (0 : Int) ≤ 8 * (r : Int) := by omega
        have h8b : 8 * (r : Int) ≤ 64 := by omega
        have h8c : 8 * (r : Int) < 64 := by omega
        have c0 : wr.cell? ⟨w.heap.size + 1, 3, none⟩ = some (.int .u64 (wd v 3)) := by rw [blk_cell HB.out]; rfl
        have f0 := blk_frozen HB.out 3
        go_wp2_with fail
        refine start_ (n := 15) (S := (fun w' => w'.cell? ⟨w.heap.size + 1, 3, none⟩ = some (.int .u64 (wd v 3)) ∧ w'.frozen? ⟨w.heap.size + 1, 3, none⟩ = false)) (ds := [14]) #[false, false, false, false, false, false, false, false, false, false, false, false, false, false, false] (by kernel_rfl) rfl rfl ⟨c0, f0⟩ (fun hHeld => ?_)
        refine pure_ (i := 0) (N := (some 10)) (v := ?_) (a' := ?_) #[true, false, false, false, false, false, false, false, false, false, false, false, false, false, false] rfl rfl (by kernel_rfl) (fun _ _ _ h => h) (Or.inl ⟨by rfl, ?_⟩) ?_ ?_
        rotate_left
        · intro w'; go_simp; with_reducible rfl
        rotate_left
        · simp only [Act.put, List.setIfInBounds_toArray, List.set_cons_zero, List.set_cons_succ, i64_w, i32_w]; rfl
        refine pure_ (i := 1) (N := (some 11)) (v := ?_) (a' := ?_) #[true, true, false, false, false, false, false, false, false, false, false, false, false, false, false] rfl rfl (by kernel_rfl) (fun _ _ _ h => h) (Or.inl ⟨by rfl, ?_⟩) ?_ ?_
        rotate_left
        · intro w'; go_simp; with_reducible rfl
        rotate_left
        · simp only [Act.put, List.setIfInBounds_toArray, List.set_cons_zero, List.set_cons_succ, i64_w, i32_w]; rfl
        refine pure_ (i := 2) (N := (some 12)) (v := ?_) (a' := ?_) #[true, true, true, false, false, false, false, false, false, false, false, false, false, false, false] rfl rfl (by kernel_rfl) (fun _ _ _ h => h) (Or.inl ⟨by rfl, ?_⟩) ?_ ?_
        rotate_left
        · intro w'; go_simp; with_reducible rfl
        rotate_left
        · simp only [Act.put, List.setIfInBounds_toArray, List.set_cons_zero, List.set_cons_succ, i64_w, i32_w]; rfl
        refine pure_ (i := 4) (N := (some 14)) (v := ?_) (a' := ?_) #[true, true, true, false, true, false, false, false, false, false, false, false, false, false, false] rfl rfl (by kernel_rfl) (fun _ _ _ h => h) (Or.inl ⟨by rfl, ?_⟩) ?_ ?_
        rotate_left
        · intro w'; go_simp; with_reducible rfl
        rotate_left
        · simp only [Act.put, List.setIfInBounds_toArray, List.set_cons_zero, List.set_cons_succ, i64_w, i32_w]; rfl
        refine pure_ (i := 5) (N := (some 15)) (v := ?_) (a' := ?_) #[true, true, true, false, true, true, false, false, false, false, false, false, false, false, false] rfl rfl (by kernel_rfl) (fun _ _ _ h => h) (Or.inl ⟨by rfl, ?_⟩) ?_ ?_
        rotate_left
        · intro w'; go_simp; with_reducible rfl
        rotate_left
        · simp only [Act.put, List.setIfInBounds_toArray, List.set_cons_zero, List.set_cons_succ, i64_w, i32_w]; rfl
        refine pure_ (i := 6) (N := (some 16)) (v := ?_) (a' := ?_) #[true, true, true, false, true, true, true, false, false, false, false, false, false, false, false] rfl rfl (by kernel_rfl) (fun _ _ _ h => h) (Or.inl ⟨by rfl, ?_⟩) ?_ ?_
        rotate_left
        · intro w'; go_simp; with_reducible rfl
        rotate_left
        · simp only [Act.put, List.setIfInBounds_toArray, List.set_cons_zero, List.set_cons_succ, i64_w, i32_w]; rfl
        refine pure_ (i := 7) (N := (some 17)) (v := ?_) (a' := ?_) #[true, true, true, false, true, true, true, true, false, false, false, false, false, false, false] rfl rfl (by kernel_rfl) (fun _ _ _ h => h) (Or.inl ⟨by rfl, ?_⟩) ?_ ?_
        rotate_left
        · intro w'; go_simp; with_reducible rfl
        rotate_left
        · simp only [Act.put, List.setIfInBounds_toArray, List.set_cons_zero, List.set_cons_succ, i64_w, i32_w]; rfl
        refine pure_ (i := 8) (N := (some 18)) (v := ?_) (a' := ?_) #[true, true, true, false, true, true, true, true, true, false, false, false, false, false, false] rfl rfl (by kernel_rfl) (fun _ _ _ h => h) (Or.inl ⟨by rfl, ?_⟩) ?_ ?_
        rotate_left
        · intro w'; go_simp; with_reducible rfl
        rotate_left
        · simp only [Act.put, List.setIfInBounds_toArray, List.set_cons_zero, List.set_cons_succ, i64_w, i32_w]; rfl
        refine pure_ (i := 9) (N := (some 19)) (v := ?_) (a' := ?_) #[true, true, true, false, true, true, true, true, true, true, false, false, false, false, false] rfl rfl (by kernel_rfl) (fun _ _ _ h => h) (Or.inl ⟨by rfl, ?_⟩) ?_ ?_
        rotate_left
        · intro w'; go_simp; with_reducible rfl
        rotate_left
        · simp only [Act.put, List.setIfInBounds_toArray, List.set_cons_zero, List.set_cons_succ, i64_w, i32_w]; rfl
        refine pure_ (i := 10) (N := (some 20)) (v := ?_) (a' := ?_) #[true, true, true, false, true, true, true, true, true, true, true, false, false, false, false] rfl rfl (by kernel_rfl) (fun _ _ _ h => h) (Or.inl ⟨by rfl, ?_⟩) ?_ ?_
        rotate_left
        · intro w'; go_simp; with_reducible rfl
        rotate_left
        · simp only [Act.put, List.setIfInBounds_toArray, List.set_cons_zero, List.set_cons_succ, i64_w, i32_w]; rfl
        refine pure_ (i := 11) (N := (some 21)) (v := ?_) (a' := ?_) #[true, true, true, false, true, true, true, true, true, true, true, true, false, false, false] rfl rfl (by kernel_rfl) (fun _ _ _ h => h) (Or.inl ⟨by rfl, ?_⟩) ?_ ?_
        rotate_left
        · intro w'; go_simp; with_reducible rfl
        rotate_left
        · simp only [Act.put, List.setIfInBounds_toArray, List.set_cons_zero, List.set_cons_succ, i64_w, i32_w]; rfl
        refine take_ (i := 3) (N := (some 13)) (v := ?_) (a' := ?_) #[true, true, true, true, true, true, true, true, true, true, true, true, false, false, false] rfl rfl (by kernel_rfl) (fun _ _ _ h => h) (Or.inl ⟨by rfl, ?_⟩) hHeld ?_ ?_
        rotate_left
        · rintro w' ⟨s0, s1⟩; go_simp; with_reducible rfl
        rotate_left
        · simp only [Act.put, List.setIfInBounds_toArray, List.set_cons_zero, List.set_cons_succ, i64_w, i32_w]; rfl
        refine pure_ (i := 12) (N := (some 22)) (v := ?_) (a' := ?_) #[true, true, true, true, true, true, true, true, true, true, true, true, true, false, false] rfl rfl (by kernel_rfl) (fun _ _ _ h => h) (Or.inl ⟨by rfl, ?_⟩) ?_ ?_
        rotate_left
        · intro w'; go_simp; with_reducible rfl
        rotate_left
        · simp only [Act.put, List.setIfInBounds_toArray, List.set_cons_zero, List.set_cons_succ, i64_w, i32_w]; rfl
        refine pure_ (i := 13) (N := (some 23)) (v := ?_) (a' := ?_) #[true, true, true, true, true, true, true, true, true, true, true, true, true, true, false] rfl rfl (by kernel_rfl) (fun _ _ _ h => h) (Or.inl ⟨by rfl, ?_⟩) ?_ ?_
        rotate_left
        · intro w'; go_simp; with_reducible rfl
        rotate_left
        · simp only [Act.put, List.setIfInBounds_toArray, List.set_cons_zero, List.set_cons_succ, i64_w, i32_w]; rfl
        refine last_ (i := 14) (N := none) #[true, true, true, true, true, true, true, true, true, true, true, true, true, true, true] rfl rfl (by kernel_rfl) (by decide) (fun K hK => ?_)
        refine skip_ (w1 := ?_) (by rfl) rfl ?_ ?_
        rotate_left
        · go_simp; rfl
        refine hK.out _ _ ?_
        clear hK K
        refine done_ (by kernel_rfl) ?_
        obtain ⟨hwx, hwd⟩ := wd_at (b := b) hr8 hb256 (show v < 256 ^ (8 * 3 + r) by rw [← hr.out]; exact hvl.out)
        have hbv := or_add hwx hr8 hb256
        rw [hbv]
        clear hbv hwx
        have HWD := Lib.hid hwd
        clear hwd
        go_wp2
        refine ⟨⟨k + 1, by omega, by go_num, ⟨?_⟩, ⟨?_⟩, ⟨?_⟩⟩, by simp [intOf]; omega⟩
        · refine (blk_drew (blk_set HB.out 3 _)).trans ?_
          rw [hst.out]
          congr 2
          rw [hr.out]
          unfold aggN
          rw [HWD.out, wd_below (q := 3) (j := 0) (by omega), wd_below (q := 3) (j := 1) (by omega), wd_below (q := 3) (j := 2) (by omega)]
          rfl
        · refine blk_drew ?_
          rw [Below.heap_setCell _ _ _ _ (by simp)]
          exact HB0.out
        · exact below_drew (below_set HBel.out (Nat.le_succ _))
    · have e : k = 32 := by omega
      subst e
      rw [List.take_of_length_le (by rw [bytesOf_len]; omega)] at HB
      have HV : Aside0 (wr.heap[w.heap.size + 1]? = some (.cells (aggN (leV s)) 67 (0, 0))) := HB
      have c0 : wr.cell? ⟨w.heap.size + 1, 0, none⟩ = some (.int .u64 (wd (leV s) 0)) := by rw [blk_cell HV.out]; rfl
      have c1 : wr.cell? ⟨w.heap.size + 1, 1, none⟩ = some (.int .u64 (wd (leV s) 1)) := by rw [blk_cell HV.out]; rfl
      have c2 : wr.cell? ⟨w.heap.size + 1, 2, none⟩ = some (.int .u64 (wd (leV s) 2)) := by rw [blk_cell HV.out]; rfl
      have c3 : wr.cell? ⟨w.heap.size + 1, 3, none⟩ = some (.int .u64 (wd (leV s) 3)) := by rw [blk_cell HV.out]; rfl
      have d0 : wr.cell? ⟨w.heap.size, 0, none⟩ = some (.int .u64 0) := by rw [blk_cell HB0.out]; rfl
      have d1 : wr.cell? ⟨w.heap.size, 1, none⟩ = some (.int .u64 0) := by rw [blk_cell HB0.out]; rfl
      have d2 : wr.cell? ⟨w.heap.size, 2, none⟩ = some (.int .u64 0) := by rw [blk_cell HB0.out]; rfl
      have d3 : wr.cell? ⟨w.heap.size, 3, none⟩ = some (.int .u64 0) := by rw [blk_cell HB0.out]; rfl
      have f0 := blk_frozen HB0.out 0
      have f1 := blk_frozen HB0.out 1
      have f2 := blk_frozen HB0.out 2
      have f3 := blk_frozen HB0.out 3
      go_wp2
      exact bodyPost_ret (v := .agg (aggN (leV s))) (by simp [results, Try.results55, go_sem, aggN, *]) rfl ⟨rfl, below_set (below_set (below_set (below_set HBel.out (Nat.le_refl _)) (Nat.le_refl _)) (Nat.le_refl _)) (Nat.le_refl _)⟩
end Go.Proofs.Ytdmpnogjpgoaaaa

set_option linter.unusedSimpArgs false
namespace Go.Proofs.Ytdmpnogjpgoaaaa
open Go.RowKit Go.Proofs.YtdmpnogjpgoaaaaW.PrintWords Go.Proofs.YtdmpnogjpgoaaaaW.PrintLast Go.Proofs.YtdmpnogjpgoaaaaW.PrintMore
def mk32 (v k : Nat) : List Value := ((byts 32 v).take k).map (fun n : Nat => Value.int .u8 n) ++ List.replicate (32 - k) (.int .u8 0)
theorem mk32_len (v k : Nat) (h : k ≤ 32) : (mk32 v k).length = 32 := by
  unfold mk32
  rw [List.length_append, List.length_map, List.length_take, byts_len, List.length_replicate]; omega
theorem byts_get : ∀ (n v k : Nat), k < n → (byts n v)[k]? = some (v / 256 ^ k % 256)
  | 0, _, _, h => by omega
  | n + 1, v, 0, _ => by simp [byts]
  | n + 1, v, k + 1, h => by
    show (byts n (v / 256))[k]? = _
    rw [byts_get n _ k (by omega), Nat.pow_succ, Nat.mul_comm, Nat.div_div_eq_div_mul]
theorem mk32_set (v k : Nat) (h : k < 32) : (mk32 v k).toArray.setIfInBounds k (.int .u8 ((v / 256 ^ k % 256 : Nat) : Int)) = (mk32 v (k + 1)).toArray := by
  rw [List.setIfInBounds_toArray]
  congr 1
  unfold mk32
  have hl : (((byts 32 v).take k).map (fun n : Nat => Value.int .u8 n)).length = k := by rw [List.length_map, List.length_take, byts_len]; omega
  rw [take_next (byts_get 32 v k h), List.map_append, List.map_singleton, List.set_append_right _ _ (by omega), hl, Nat.sub_self]
  rw [show 32 - k = (32 - (k + 1)) + 1 by omega, List.replicate_succ, List.set_cons_zero, List.append_assoc]; rfl
theorem byteval {v q r : Nat} (hr : r < 8) : wd v q / 2 ^ (8 * r) % 256 = v / 256 ^ (8 * q + r) % 256 := by
  have e8 : (2 : Nat) ^ (8 * r) = 256 ^ r := by rw [Nat.pow_mul]
  rw [e8, pow_split, ← Nat.div_div_eq_div_mul]
  unfold wd
  generalize v / 18446744073709551616 ^ q = x
  have e : (18446744073709551616 : Nat) = 256 ^ r * 256 ^ (8 - r) := by rw [← Nat.pow_add, show r + (8 - r) = 8 by omega]
  rw [e, Nat.mod_mul_right_div_self, Nat.mod_mod_of_dvd]
  exact ⟨256 ^ (7 - r), by rw [← Nat.pow_succ']; congr 1; omega⟩
theorem make32 (W : World) : (Instr.makeSlice 63 (.int .i64 32) (.int .i64 32)).run Try.prog W = .ok (.slice (some ⟨W.heap.size, 0, none⟩) 32 32) (W.alloc (.cells (mk32 0 0).toArray 5)) := by
  obtain ⟨i0, hi, hzz⟩ := Option.map_eq_some_iff.1 (show (Try.prog.info? 5).map (fun i => (i.zero, i.size, i.bytes)) = some (some (.int .u8 0), 1, 1) by kernel_rfl)
  simp only [Prod.mk.injEq] at hzz
  obtain ⟨hz0, hz1, hz2⟩ := hzz
  have := run_make (P := Try.prog) W 63 5 i0 (.int .u8 0) Try.underlying63 hi hz0 .i64 .i64 32 32 (by omega) (by omega) (by rw [hz2]; decide) (by omega)
  rw [this, hz1, show madeCells (Value.int IntKind.u8 0).cells (Int.toNat 32 * 1) = (mk32 0 0).toArray by kernel_rfl]
  rfl
attribute [local go_sem high] make32
theorem conv32 (v b : Nat) (W : World) (h : W.heap[b]? = some (.cells (mk32 v 32).toArray 5 (0, 0))) : (convert 63 9 (.slice (some ⟨b, 0, none⟩) 32 32)).run Try.prog W = .ok (.string (textV v)) W := by
  refine string_of_reads (xs := I (byts 32 v)) Try.underlying63 Try.underlying5 Try.underlying9 ?_
  refine ⟨by rw [I_len, byts_len], by omega, fun _ => ⟨_, rfl, fun j hj => ?_⟩⟩
  have e : (Addr.mk b 0 none).add j = ⟨b, j, none⟩ := by
    simp [Addr.add]
    intro h; exact h.symm
  rw [e, blk_cell h]
  unfold mk32 I
  rw [List.getElem?_toArray, List.take_of_length_le (by rw [byts_len]; omega), Nat.sub_self, List.replicate_zero, List.append_nil, List.getElem?_map, byts_get 32 v j hj]
  simp [List.getD_eq_getElem?_getD, byts_get 32 v j hj]
  try omega
set_option maxHeartbeats 400000 in
set_option maxRecDepth 100000 in
theorem text_any (v : Nat) (w : World) :
    Calls Try.prog 58 #[.agg (aggN v)] w fun e w' => e = .returned (.string (textV v)) ∧ Below w.heap.size w w' := by
  have hu65 := Try.underlying67
  unfold aggN
  go_enter Try.func58, Try.ntmps58
  go_wp2
  go_loopw [8] (fun i wr => ∃ k : Nat, k ≤ 32 ∧ i = .int .i64 k ∧ Aside0 (wr.heap[w.heap.size + 1]? = some (.cells (mk32 v k).toArray 5 (0, 0))) ∧ Aside0 (wr.heap[w.heap.size]? = some (.cells (aggN v) 67 (0, 0))) ∧ Aside0 (Below w.heap.size w wr)) (fun i _ => (32 - intOf i).toNat)
  case atStart =>
    refine ⟨0, by omega, rfl, ⟨?_⟩, ⟨blk_alloc (heap_alloc_new w _) _⟩, ⟨below_alloc (below_alloc (Below.refl _ _) _) _⟩⟩
    rw [show w.heap.size + 1 = (w.alloc (.cells (aggN v) 67)).heap.size by simp]
    exact (heap_alloc_new _ _).trans rfl
  case round =>
    obtain ⟨k, hk, rfl, HB, HB0, HBel⟩ := hrel
    by_cases hlt : k < 32
    · have hlen := mk32_len v k hk
      have hcell : ∃ u, wr.cell? ⟨w.heap.size + 1, k, none⟩ = some u := ⟨_, by rw [blk_cell HB.out, List.getElem?_toArray]; exact List.getElem?_eq_getElem (by omega)⟩
      obtain ⟨u, hu⟩ := hcell
      have hfr := blk_frozen HB.out k
      clear hlen
      have p0 : (0 : Int) ≤ (k : Int) := by omega
      have p1 : (k : Int) < 32 := by omega
      rcases (show k < 8 ∨ (8 ≤ k ∧ k < 16) ∨ (16 ≤ k ∧ k < 24) ∨ (24 ≤ k ∧ k < 32) by omega) with hq | hq | hq | hq
      · have hdiv : Int.tdiv (k : Int) 8 = 0 := by show ((k / 8 : Nat) : Int) = 0; omega
        obtain ⟨r, hr0, hr8⟩ : ∃ r, k = 0 + r ∧ r < 8 := ⟨k - 0, by omega, by omega⟩
        have hwq : wrap64 (0 : Int) = 0 := wri (by omega)
        have hw8 : wrap64 (8 * (r : Int)) = 8 * (r : Int) := wri (by omega)
        have h8a : (0 : Int) ≤ 8 * (r : Int) := by omega
        have h8b : 8 * (r : Int) ≤ 64 := by omega
        have h8c : 8 * (r : Int) < 64 := by omega
        have hr := Lib.hid hr0
        have hmod : Int.tmod (k : Int) 8 = (r : Int) := by show ((k % 8 : Nat) : Int) = _; omega
        clear hr0
        have c0 : wr.cell? ⟨w.heap.size, 0, none⟩ = some (.int .u64 (wd v 0)) := by rw [blk_cell HB0.out]; rfl
        have hby := Lib.hid (show ((wd v 0 : Nat) : Int) / 2 ^ (8 * r) % 256 = ((v / 256 ^ k % 256 : Nat) : Int) by
          rw [hr.out, ← byteval (q := 0) hr8, show (2 : Int) ^ (8 * r) = ((2 ^ (8 * r) : Nat) : Int) by rw [Int.natCast_pow]; rfl, ← Int.natCast_ediv]
          generalize wd v 0 / 2 ^ (8 * r) = y
          omega)
        go_wp2
        refine ⟨⟨k + 1, by omega, by go_num, ⟨?_⟩, ⟨?_⟩, ⟨?_⟩⟩, by simp [intOf]; omega⟩
        · refine (blk_set HB.out k _).trans ?_
          rw [← mk32_set v k hlt, hby.out]
        · rw [Below.heap_setCell _ _ _ _ (by simp)]
          exact HB0.out
        · exact below_set HBel.out (Nat.le_succ _)
      · have hdiv : Int.tdiv (k : Int) 8 = 1 := by show ((k / 8 : Nat) : Int) = 1; omega
        obtain ⟨r, hr0, hr8⟩ : ∃ r, k = 8 + r ∧ r < 8 := ⟨k - 8, by omega, by omega⟩
        have hwq : wrap64 (1 : Int) = 1 := wri (by omega)
        have hw8 : wrap64 (8 * (r : Int)) = 8 * (r : Int) := wri (by omega)
        have h8a : (0 : Int) ≤ 8 * (r : Int) := by omega
        have h8b : 8 * (r : Int) ≤ 64 := by omega
        have h8c : 8 * (r : Int) < 64 := by omega
        have hr := Lib.hid hr0
        have hmod : Int.tmod (k : Int) 8 = (r : Int) := by show ((k % 8 : Nat) : Int) = _; omega
        clear hr0
        have c0 : wr.cell? ⟨w.heap.size, 1, none⟩ = some (.int .u64 (wd v 1)) := by rw [blk_cell HB0.out]; rfl
        have hby := Lib.hid (show ((wd v 1 : Nat) : Int) / 2 ^ (8 * r) % 256 = ((v / 256 ^ k % 256 : Nat) : Int) by
          rw [hr.out, ← byteval (q := 1) hr8, show (2 : Int) ^ (8 * r) = ((2 ^ (8 * r) : Nat) : Int) by rw [Int.natCast_pow]; rfl, ← Int.natCast_ediv]
          generalize wd v 1 / 2 ^ (8 * r) = y
          omega)
        go_wp2
        refine ⟨⟨k + 1, by omega, by go_num, ⟨?_⟩, ⟨?_⟩, ⟨?_⟩⟩, by simp [intOf]; omega⟩
        · refine (blk_set HB.out k _).trans ?_
          rw [← mk32_set v k hlt, hby.out]
        · rw [Below.heap_setCell _ _ _ _ (by simp)]
          exact HB0.out
        · exact below_set HBel.out (Nat.le_succ _)
      · have hdiv : Int.tdiv (k : Int) 8 = 2 := by show ((k / 8 : Nat) : Int) = 2; omega
        obtain ⟨r, hr0, hr8⟩ : ∃ r, k = 16 + r ∧ r < 8 := ⟨k - 16, by omega, by omega⟩
        have hwq : wrap64 (2 : Int) = 2 := wri (by omega)
        have hw8 : wrap64 (8 * (r : Int)) = 8 * (r : Int) := wri (by omega)
        have h8a : (0 : Int) ≤ 8 * (r : Int) := by omega
        have h8b : 8 * (r : Int) ≤ 64 := by omega
        have h8c : 8 * (r : Int) < 64 := by omega
        have hr := Lib.hid hr0
        have hmod : Int.tmod (k : Int) 8 = (r : Int) := by show ((k % 8 : Nat) : Int) = _; omega
        clear hr0
        have c0 : wr.cell? ⟨w.heap.size, 2, none⟩ = some (.int .u64 (wd v 2)) := by rw [blk_cell HB0.out]; rfl
        have hby := Lib.hid (show ((wd v 2 : Nat) : Int) / 2 ^ (8 * r) % 256 = ((v / 256 ^ k % 256 : Nat) : Int) by
          rw [hr.out, ← byteval (q := 2) hr8, show (2 : Int) ^ (8 * r) = ((2 ^ (8 * r) : Nat) : Int) by rw [Int.natCast_pow]; rfl, ← Int.natCast_ediv]
          generalize wd v 2 / 2 ^ (8 * r) = y
          omega)
        go_wp2
        refine ⟨⟨k + 1, by omega, by go_num, ⟨?_⟩, ⟨?_⟩, ⟨?_⟩⟩, by simp [intOf]; omega⟩
        · refine (blk_set HB.out k _).trans ?_
          rw [← mk32_set v k hlt, hby.out]
        · rw [Below.heap_setCell _ _ _ _ (by simp)]
          exact HB0.out
        · exact below_set HBel.out (Nat.le_succ _)
      · have hdiv : Int.tdiv (k : Int) 8 = 3 := by show ((k / 8 : Nat) : Int) = 3; omega
        obtain ⟨r, hr0, hr8⟩ : ∃ r, k = 24 + r ∧ r < 8 := ⟨k - 24, by omega, by omega⟩
        have hwq : wrap64 (3 : Int) = 3 := wri (by omega)
        have hw8 : wrap64 (8 * (r : Int)) = 8 * (r : Int) := wri (by omega)
        have h8a : (0 : Int) ≤ 8 * (r : Int) := by omega
        have h8b : 8 * (r : Int) ≤ 64 := by omega
        have h8c : 8 * (r : Int) < 64 := by omega
        have hr := Lib.hid hr0
        have hmod : Int.tmod (k : Int) 8 = (r : Int) := by show ((k % 8 : Nat) : Int) = _; omega
        clear hr0
        have c0 : wr.cell? ⟨w.heap.size, 3, none⟩ = some (.int .u64 (wd v 3)) := by rw [blk_cell HB0.out]; rfl
        have hby := Lib.hid (show ((wd v 3 : Nat) : Int) / 2 ^ (8 * r) % 256 = ((v / 256 ^ k % 256 : Nat) : Int) by
          rw [hr.out, ← byteval (q := 3) hr8, show (2 : Int) ^ (8 * r) = ((2 ^ (8 * r) : Nat) : Int) by rw [Int.natCast_pow]; rfl, ← Int.natCast_ediv]
          generalize wd v 3 / 2 ^ (8 * r) = y
          omega)
        go_wp2
        refine ⟨⟨k + 1, by omega, by go_num, ⟨?_⟩, ⟨?_⟩, ⟨?_⟩⟩, by simp [intOf]; omega⟩
        · refine (blk_set HB.out k _).trans ?_
          rw [← mk32_set v k hlt, hby.out]
        · rw [Below.heap_setCell _ _ _ _ (by simp)]
          exact HB0.out
        · exact below_set HBel.out (Nat.le_succ _)
    · have e : k = 32 := by omega
      subst e
      have hcv := conv32 v _ _ HB.out
      go_wp2
      go_ret
      exact ⟨rfl, HBel.out⟩
end Go.Proofs.Ytdmpnogjpgoaaaa

namespace Go.Proofs.Ytdmpnogjpgoaaaa
open Go.RowKit Go.Proofs.YtdmpnogjpgoaaaaW.PrintWords Go.Proofs.YtdmpnogjpgoaaaaW.PrintLast Go.Proofs.YtdmpnogjpgoaaaaW.PrintMore
def adS (x y c : Nat) : Nat := (x + y + c) % 18446744073709551616
def adC (x y c : Nat) : Nat := (x + y + c) / 18446744073709551616
def sbS (x y b : Nat) : Nat := (x + 18446744073709551616 - y - b) % 18446744073709551616
def sbB (x y b : Nat) : Nat := if x < y + b then 1 else 0
def sub64E : Array Value → Sem Value := fun args => do
  let (x, y, b) ← Extern.MathBitsCarry.three "Sub64" args
  pure (Extern.MathBitsCarry.pair ((x + Extern.MathBitsCarry.m64 - y - b) % Extern.MathBitsCarry.m64) (if x < y + b then 1 else 0))
def add64E : Array Value → Sem Value := fun args => do
  let (x, y, c) ← Extern.MathBitsCarry.three "Add64" args
  pure (Extern.MathBitsCarry.pair ((x + y + c) % Extern.MathBitsCarry.m64) ((x + y + c) / Extern.MathBitsCarry.m64))
theorem add75 (x y c : Nat) (hc : c ≤ 1) (w : World) : (callFunc 96 #[.int .u64 x, .int .u64 y, .int .u64 c]).run Try.prog w = .ok (.value (.tuple #[.int .u64 (adS x y c : Nat), .int .u64 (adC x y c : Nat)])) w := by
  rw [run_callFunc_extern Try.func96 (by kernel_rfl) (by kernel_rfl) (by kernel_rfl) (e := add64E) (by kernel_rfl)]
  have : c = 0 ∨ c = 1 := by omega
  rcases this with rfl | rfl <;> rfl
theorem add75_0 (x y : Nat) (w : World) : (callFunc 96 #[.int .u64 x, .int .u64 y, .int .u64 0]).run Try.prog w = .ok (.value (.tuple #[.int .u64 (adS x y 0 : Nat), .int .u64 (adC x y 0 : Nat)])) w := add75 x y 0 (by omega) w
theorem sub76 (x y c : Nat) (hc : c ≤ 1) (w : World) : (callFunc 97 #[.int .u64 x, .int .u64 y, .int .u64 c]).run Try.prog w = .ok (.value (.tuple #[.int .u64 (sbS x y c : Nat), .int .u64 (sbB x y c : Nat)])) w := by
  rw [run_callFunc_extern Try.func97 (by kernel_rfl) (by kernel_rfl) (by kernel_rfl) (e := sub64E) (by kernel_rfl)]
  have : c = 0 ∨ c = 1 := by omega
  rcases this with rfl | rfl <;> rfl
theorem sub76_0 (x y : Nat) (w : World) : (callFunc 97 #[.int .u64 x, .int .u64 y, .int .u64 0]).run Try.prog w = .ok (.value (.tuple #[.int .u64 (sbS x y 0 : Nat), .int .u64 (sbB x y 0 : Nat)])) w := sub76 x y 0 (by omega) w
/-! ### the carry and the borrow ahead of word k -/
def MM : Nat := 18446744073709551616
def cy (n m k : Nat) : Nat := (n % MM ^ k + m % MM ^ k) / MM ^ k
def bw (n m k : Nat) : Nat := if n % MM ^ k < m % MM ^ k then 1 else 0
theorem wd_MM (v j : Nat) : wd v j = v / MM ^ j % MM := rfl
theorem MMpos (k : Nat) : 0 < MM ^ k := Nat.pow_pos (by decide)
theorem mod_succ (v k : Nat) : v % MM ^ (k + 1) = v % MM ^ k + MM ^ k * wd v k := by
  rw [Nat.pow_succ, Nat.mod_mul, wd_MM]
theorem cy_0 (n m : Nat) : cy n m 0 = 0 := by simp [cy, Nat.mod_one]
theorem cy_le (n m k : Nat) : cy n m k ≤ 1 := by
  have h1 := Nat.mod_lt n (MMpos k)
  have h2 := Nat.mod_lt m (MMpos k)
  unfold cy
  have : (n % MM ^ k + m % MM ^ k) / MM ^ k < 2 := Nat.div_lt_of_lt_mul (by omega)
  omega
theorem cy_step (n m k : Nat) : adC (wd n k) (wd m k) (cy n m k) = cy n m (k + 1) := by
  unfold adC cy
  show _ / MM = _
  rw [mod_succ n k, mod_succ m k, Nat.pow_succ]
  have hp := MMpos k
  rw [show n % MM ^ k + MM ^ k * wd n k + (m % MM ^ k + MM ^ k * wd m k) = (n % MM ^ k + m % MM ^ k) + MM ^ k * (wd n k + wd m k) by rw [Nat.mul_add]; omega]
  rw [← Nat.div_div_eq_div_mul, Nat.add_mul_div_left _ _ hp]
  congr 1; omega
theorem ad_wd (n m k : Nat) : adS (wd n k) (wd m k) (cy n m k) = wd (n + m) k := by
  unfold adS cy
  have hp := MMpos k
  show _ % MM = _
  rw [wd_MM, wd_MM, wd_MM]
  have e : (n + m) / MM ^ k = (n % MM ^ k + m % MM ^ k) / MM ^ k + (n / MM ^ k + m / MM ^ k) := by
    have d1 := Nat.div_add_mod n (MM ^ k)
    have d2 := Nat.div_add_mod m (MM ^ k)
    rw [← Nat.add_mul_div_left _ _ hp, Nat.mul_add]
    congr 1; omega
  rw [e, Nat.add_mod, Nat.add_mod (n / MM ^ k % MM), Nat.mod_mod, Nat.mod_mod, ← Nat.add_mod (n / MM ^ k), ← Nat.add_mod, Nat.add_comm]
theorem cy_4 (n m : Nat) (hn : n < MM ^ 4) (hm : m < MM ^ 4) : cy n m 4 = (n + m) / MM ^ 4 := by
  unfold cy; rw [Nat.mod_eq_of_lt hn, Nat.mod_eq_of_lt hm]
theorem bw_0 (n m : Nat) : bw n m 0 = 0 := by simp [bw, Nat.mod_one]
theorem bw_le (n m k : Nat) : bw n m k ≤ 1 := by unfold bw; split <;> omega
theorem bw_step (n m k : Nat) : sbB (wd n k) (wd m k) (bw n m k) = bw n m (k + 1) := by
  have h1 := Nat.mod_lt n (MMpos k)
  have h2 := Nat.mod_lt m (MMpos k)
  unfold sbB bw
  rw [mod_succ n k, mod_succ m k]
  generalize n % MM ^ k = a at *
  generalize m % MM ^ k = b at *
  generalize wd n k = x
  generalize wd m k = y
  generalize MM ^ k = K at *
  have key : (x < y + if a < b then 1 else 0) ↔ a + K * x < b + K * y := by
    by_cases hxy : x < y
    · have := Nat.mul_le_mul_left K (show x + 1 ≤ y from hxy)
      rw [Nat.mul_add, Nat.mul_one] at this
      constructor
      · intro _; omega
      · intro _; omega
    · by_cases e : x = y
      · subst e
        split <;> constructor <;> intro _ <;> omega
      · have := Nat.mul_le_mul_left K (show y + 1 ≤ x by omega)
        rw [Nat.mul_add, Nat.mul_one] at this
        constructor
        · intro h; split at h <;> omega
        · intro h; omega
  by_cases h : a + K * x < b + K * y
  · rw [if_pos (key.2 h), if_pos h]
  · rw [if_neg (fun hh => h (key.1 hh)), if_neg h]
theorem wd_lt' (v j : Nat) : wd v j < MM := wd_lt v j
theorem wd_add4 (n k : Nat) (hk : k < 4) : wd (n + MM ^ 4) k = wd n k := by
  rw [wd_MM, wd_MM]
  obtain ⟨t, ht⟩ : ∃ t, 4 = k + 1 + t := ⟨3 - k, by omega⟩
  rw [ht, Nat.pow_add, Nat.pow_succ, Nat.mul_assoc, Nat.add_mul_div_left _ _ (MMpos k), Nat.add_mul_mod_self_left]
theorem mod_add4 (n k : Nat) (hk : k ≤ 4) : (n + MM ^ 4) % MM ^ k = n % MM ^ k := by
  obtain ⟨t, ht⟩ : ∃ t, 4 = k + t := ⟨4 - k, by omega⟩
  rw [ht, Nat.pow_add, Nat.add_mul_mod_self_left]
theorem sb_wd (n m k : Nat) (hm : m < MM ^ 4) (hk : k < 4) : sbS (wd n k) (wd m k) (bw n m k) = wd (n + MM ^ 4 - m) k := by
  have hs : n + MM ^ 4 - m + m = n + MM ^ 4 := by omega
  generalize n + MM ^ 4 - m = d at hs
  have h1 := ad_wd d m k
  rw [hs, wd_add4 n k hk] at h1
  have h2 : cy d m k = bw n m k := by
    have e : (d + m) % MM ^ k = n % MM ^ k := by rw [hs, mod_add4 n k (by omega)]
    rw [Nat.add_mod] at e
    have p1 := Nat.mod_lt d (MMpos k)
    have p2 := Nat.mod_lt m (MMpos k)
    have p3 := MMpos k
    unfold cy bw
    generalize d % MM ^ k = a at *
    generalize m % MM ^ k = b at *
    generalize n % MM ^ k = c at *
    generalize MM ^ k = K at *
    by_cases h : a + b < K
    · rw [Nat.div_eq_of_lt h, if_neg]
      rw [Nat.mod_eq_of_lt h] at e; omega
    · have : a + b = K + (a + b - K) := by omega
      rw [show (a + b) / K = 1 from by rw [this, Nat.add_div_left _ p3, Nat.div_eq_of_lt (by omega)], if_pos]
      rw [this, Nat.add_mod_left, Nat.mod_eq_of_lt (by omega)] at e; omega
  rw [h2] at h1
  have b1 := bw_le n m k
  have b2 := wd_lt d k
  have b3 := wd_lt m k
  unfold adS at h1
  unfold sbS
  generalize wd d k = x at *
  generalize wd m k = y at *
  omega
theorem bw_4 (n m : Nat) (hn : n < MM ^ 4) (hm : m < MM ^ 4) : bw n m 4 = if n < m then 1 else 0 := by
  unfold bw; rw [Nat.mod_eq_of_lt hn, Nat.mod_eq_of_lt hm]
end Go.Proofs.Ytdmpnogjpgoaaaa

set_option linter.unusedSimpArgs false
namespace Go.Proofs.Ytdmpnogjpgoaaaa
open Go.RowKit Go.Proofs.YtdmpnogjpgoaaaaW.PrintWords Go.Proofs.YtdmpnogjpgoaaaaW.PrintLast Go.Proofs.YtdmpnogjpgoaaaaW.PrintMore
attribute [local go_sem high] add75 add75_0
theorem far3 {W : World} {p a : Addr} (v : Value) (h : p.block ≠ a.block) : (W.setCell p v).drew.cell? a = W.cell? a := by
  exact World.cell?_setCell_far W p a v h
theorem blocks4 (w : World) (a b c d : Obj) : ((((w.alloc a).alloc b).alloc c).alloc d).heap[w.heap.size]? = some a ∧ ((((w.alloc a).alloc b).alloc c).alloc d).heap[w.heap.size + 1]? = some b ∧ ((((w.alloc a).alloc b).alloc c).alloc d).heap[w.heap.size + 2]? = some c ∧ ((((w.alloc a).alloc b).alloc c).alloc d).heap[w.heap.size + 3]? = some d := by
  have e1 : w.heap.size + 1 = (w.alloc a).heap.size := by simp
  have e2 : w.heap.size + 2 = ((w.alloc a).alloc b).heap.size := by simp
  have e3 : w.heap.size + 3 = (((w.alloc a).alloc b).alloc c).heap.size := by simp
  refine ⟨blk_alloc (blk_alloc (blk_alloc (heap_alloc_new w a) b) c) d, ?_, ?_, ?_⟩
  · rw [e1]; exact blk_alloc (blk_alloc (heap_alloc_new (w.alloc a) b) c) d
  · rw [e2]; exact blk_alloc (heap_alloc_new ((w.alloc a).alloc b) c) d
  · rw [e3]; exact heap_alloc_new (((w.alloc a).alloc b).alloc c) d
/-- the first k words of a number -/
def pk (s k : Nat) : Array Value := #[.int .u64 (if 0 < k then (wd s 0 : Int) else 0), .int .u64 (if 1 < k then (wd s 1 : Int) else 0), .int .u64 (if 2 < k then (wd s 2 : Int) else 0), .int .u64 (if 3 < k then (wd s 3 : Int) else 0)]
set_option maxHeartbeats 400000 in
set_option maxRecDepth 100000 in
theorem plus_any (n m : Nat) (w : World) :
    Calls Try.prog 62 #[.agg (aggN n), .agg (aggN m)] w fun e w' => e = .returned (.tuple #[.agg (aggN (n + m)), .int .u64 (cy n m 4 : Nat)]) ∧ Below w.heap.size w w' := by
  have hu65 := Try.underlying67
  unfold aggN
  go_enter Try.func62, Try.ntmps62
  go_wp2
  go_loopw [9, 7] (fun i c wr => ∃ k : Nat, k ≤ 4 ∧ i = .int .i64 k ∧ c = .int .u64 (cy n m k : Nat) ∧ Aside0 (wr.heap[w.heap.size + 3]? = some (.cells (pk (n + m) k) 67 (0, 0))) ∧ Aside0 (wr.heap[w.heap.size + 2]? = some (.cells #[.int .u64 0, .int .u64 0, .int .u64 0, .int .u64 0] 67 (0, 0))) ∧ Aside0 (wr.heap[w.heap.size]? = some (.cells (aggN n) 67 (0, 0))) ∧ Aside0 (wr.heap[w.heap.size + 1]? = some (.cells (aggN m) 67 (0, 0))) ∧ Aside0 (Below w.heap.size w wr)) (fun i _ _ => (4 - intOf i).toNat)
  case atStart =>
    obtain ⟨h0, h1, h2, h3⟩ := blocks4 w (.cells (aggN n) 67) (.cells (aggN m) 67) (.cells #[.int .u64 0, .int .u64 0, .int .u64 0, .int .u64 0] 67) (.cells (pk (n + m) 0) 67)
    exact ⟨0, by omega, rfl, by rw [cy_0]; rfl, ⟨h3⟩, ⟨h2⟩, ⟨h0⟩, ⟨h1⟩, ⟨below_alloc (below_alloc (below_alloc (below_alloc (Below.refl _ _) _) _) _) _⟩⟩
  case round =>
    obtain ⟨k, hk, rfl, rfl, HB, HB0, HN, HM, HBel⟩ := hrel
    rcases (show k = 0 ∨ k = 1 ∨ k = 2 ∨ k = 3 ∨ k = 4 by omega) with rfl | rfl | rfl | rfl | rfl
    · have c0 : wr.cell? ⟨w.heap.size, 0, none⟩ = some (.int .u64 (wd n 0 : Nat)) := by rw [blk_cell HN.out]; rfl
      have c1 : wr.cell? ⟨w.heap.size + 1, 0, none⟩ = some (.int .u64 (wd m 0 : Nat)) := by rw [blk_cell HM.out]; rfl
      have c2 : wr.cell? ⟨w.heap.size + 3, 0, none⟩ = some (.int .u64 0) := by rw [blk_cell HB.out]; rfl
      have f2 := blk_frozen HB.out 0
      have hcy := cy_le n m 0
      have e1 := ad_wd n m 0
      have e2 := cy_step n m 0
      generalize hcc : cy n m 0 = cc at *
      go_wp2_with fail
      go_region_held3 (fun w' => w'.cell? ⟨w.heap.size, 0, none⟩ = some (.int .u64 (wd n 0 : Nat)) ∧ w'.cell? ⟨w.heap.size + 1, 0, none⟩ = some (.int .u64 (wd m 0 : Nat))) (first | (exact ⟨(far3 _ (by dsimp only; omega)).trans c0, (far3 _ (by dsimp only; omega)).trans c1⟩) | go_keep) (simp only [add75 _ _ _ hcy, e1, e2])
      go_wp2
      refine ⟨⟨0 + 1, by omega, by go_num, rfl, ⟨?_⟩, ⟨?_⟩, ⟨?_⟩, ⟨?_⟩, ⟨below_drew (below_set HBel.out (by omega))⟩⟩, by simp [intOf]⟩
      · exact blk_drew (blk_set HB.out 0 _)
      · exact blk_drew ((Below.heap_setCell _ _ _ _ (by dsimp only; omega)).trans HB0.out)
      · exact blk_drew ((Below.heap_setCell _ _ _ _ (by dsimp only; omega)).trans HN.out)
      · exact blk_drew ((Below.heap_setCell _ _ _ _ (by dsimp only; omega)).trans HM.out)
    · have c0 : wr.cell? ⟨w.heap.size, 1, none⟩ = some (.int .u64 (wd n 1 : Nat)) := by rw [blk_cell HN.out]; rfl
      have c1 : wr.cell? ⟨w.heap.size + 1, 1, none⟩ = some (.int .u64 (wd m 1 : Nat)) := by rw [blk_cell HM.out]; rfl
      have c2 : wr.cell? ⟨w.heap.size + 3, 1, none⟩ = some (.int .u64 0) := by rw [blk_cell HB.out]; rfl
      have f2 := blk_frozen HB.out 1
      have hcy := cy_le n m 1
      have e1 := ad_wd n m 1
      have e2 := cy_step n m 1
      generalize hcc : cy n m 1 = cc at *
      go_wp2_with fail
      go_region_held3 (fun w' => w'.cell? ⟨w.heap.size, 1, none⟩ = some (.int .u64 (wd n 1 : Nat)) ∧ w'.cell? ⟨w.heap.size + 1, 1, none⟩ = some (.int .u64 (wd m 1 : Nat))) (first | (exact ⟨(far3 _ (by dsimp only; omega)).trans c0, (far3 _ (by dsimp only; omega)).trans c1⟩) | go_keep) (simp only [add75 _ _ _ hcy, e1, e2])
      go_wp2
      refine ⟨⟨1 + 1, by omega, by go_num, rfl, ⟨?_⟩, ⟨?_⟩, ⟨?_⟩, ⟨?_⟩, ⟨below_drew (below_set HBel.out (by omega))⟩⟩, by simp [intOf]⟩
      · exact blk_drew (blk_set HB.out 1 _)
      · exact blk_drew ((Below.heap_setCell _ _ _ _ (by dsimp only; omega)).trans HB0.out)
      · exact blk_drew ((Below.heap_setCell _ _ _ _ (by dsimp only; omega)).trans HN.out)
      · exact blk_drew ((Below.heap_setCell _ _ _ _ (by dsimp only; omega)).trans HM.out)
    · have c0 : wr.cell? ⟨w.heap.size, 2, none⟩ = some (.int .u64 (wd n 2 : Nat)) := by rw [blk_cell HN.out]; rfl
      have c1 : wr.cell? ⟨w.heap.size + 1, 2, none⟩ = some (.int .u64 (wd m 2 : Nat)) := by rw [blk_cell HM.out]; rfl
      have c2 : wr.cell? ⟨w.heap.size + 3, 2, none⟩ = some (.int .u64 0) := by rw [blk_cell HB.out]; rfl
      have f2 := blk_frozen HB.out 2
      have hcy := cy_le n m 2
      have e1 := ad_wd n m 2
      have e2 := cy_step n m 2
      generalize hcc : cy n m 2 = cc at *
      go_wp2_with fail
      go_region_held3 (fun w' => w'.cell? ⟨w.heap.size, 2, none⟩ = some (.int .u64 (wd n 2 : Nat)) ∧ w'.cell? ⟨w.heap.size + 1, 2, none⟩ = some (.int .u64 (wd m 2 : Nat))) (first | (exact ⟨(far3 _ (by dsimp only; omega)).trans c0, (far3 _ (by dsimp only; omega)).trans c1⟩) | go_keep) (simp only [add75 _ _ _ hcy, e1, e2])
      go_wp2
      refine ⟨⟨2 + 1, by omega, by go_num, rfl, ⟨?_⟩, ⟨?_⟩, ⟨?_⟩, ⟨?_⟩, ⟨below_drew (below_set HBel.out (by omega))⟩⟩, by simp [intOf]⟩
      · exact blk_drew (blk_set HB.out 2 _)
      · exact blk_drew ((Below.heap_setCell _ _ _ _ (by dsimp only; omega)).trans HB0.out)
      · exact blk_drew ((Below.heap_setCell _ _ _ _ (by dsimp only; omega)).trans HN.out)
      · exact blk_drew ((Below.heap_setCell _ _ _ _ (by dsimp only; omega)).trans HM.out)
    · have c0 : wr.cell? ⟨w.heap.size, 3, none⟩ = some (.int .u64 (wd n 3 : Nat)) := by rw [blk_cell HN.out]; rfl
      have c1 : wr.cell? ⟨w.heap.size + 1, 3, none⟩ = some (.int .u64 (wd m 3 : Nat)) := by rw [blk_cell HM.out]; rfl
      have c2 : wr.cell? ⟨w.heap.size + 3, 3, none⟩ = some (.int .u64 0) := by rw [blk_cell HB.out]; rfl
      have f2 := blk_frozen HB.out 3
      have hcy := cy_le n m 3
      have e1 := ad_wd n m 3
      have e2 := cy_step n m 3
      generalize hcc : cy n m 3 = cc at *
      go_wp2_with fail
      go_region_held3 (fun w' => w'.cell? ⟨w.heap.size, 3, none⟩ = some (.int .u64 (wd n 3 : Nat)) ∧ w'.cell? ⟨w.heap.size + 1, 3, none⟩ = some (.int .u64 (wd m 3 : Nat))) (first | (exact ⟨(far3 _ (by dsimp only; omega)).trans c0, (far3 _ (by dsimp only; omega)).trans c1⟩) | go_keep) (simp only [add75 _ _ _ hcy, e1, e2])
      go_wp2
      refine ⟨⟨3 + 1, by omega, by go_num, rfl, ⟨?_⟩, ⟨?_⟩, ⟨?_⟩, ⟨?_⟩, ⟨below_drew (below_set HBel.out (by omega))⟩⟩, by simp [intOf]⟩
      · exact blk_drew (blk_set HB.out 3 _)
      · exact blk_drew ((Below.heap_setCell _ _ _ _ (by dsimp only; omega)).trans HB0.out)
      · exact blk_drew ((Below.heap_setCell _ _ _ _ (by dsimp only; omega)).trans HN.out)
      · exact blk_drew ((Below.heap_setCell _ _ _ _ (by dsimp only; omega)).trans HM.out)
    · have c0 : wr.cell? ⟨w.heap.size + 3, 0, none⟩ = some (.int .u64 (wd (n + m) 0)) := by rw [blk_cell HB.out]; rfl
      have c1 : wr.cell? ⟨w.heap.size + 3, 1, none⟩ = some (.int .u64 (wd (n + m) 1)) := by rw [blk_cell HB.out]; rfl
      have c2 : wr.cell? ⟨w.heap.size + 3, 2, none⟩ = some (.int .u64 (wd (n + m) 2)) := by rw [blk_cell HB.out]; rfl
      have c3 : wr.cell? ⟨w.heap.size + 3, 3, none⟩ = some (.int .u64 (wd (n + m) 3)) := by rw [blk_cell HB.out]; rfl
      have d0 : wr.cell? ⟨w.heap.size + 2, 0, none⟩ = some (.int .u64 0) := by rw [blk_cell HB0.out]; rfl
      have d1 : wr.cell? ⟨w.heap.size + 2, 1, none⟩ = some (.int .u64 0) := by rw [blk_cell HB0.out]; rfl
      have d2 : wr.cell? ⟨w.heap.size + 2, 2, none⟩ = some (.int .u64 0) := by rw [blk_cell HB0.out]; rfl
      have d3 : wr.cell? ⟨w.heap.size + 2, 3, none⟩ = some (.int .u64 0) := by rw [blk_cell HB0.out]; rfl
      have f0 := blk_frozen HB0.out 0
      have f1 := blk_frozen HB0.out 1
      have f2 := blk_frozen HB0.out 2
      have f3 := blk_frozen HB0.out 3
      go_wp2
      exact bodyPost_ret (v := .tuple #[.agg (aggN (n + m)), .int .u64 (cy n m 4 : Nat)]) (by simp [results, Try.results62, go_sem, aggN, *]) rfl ⟨rfl, below_set (below_set (below_set (below_set HBel.out (by omega)) (by omega)) (by omega)) (by omega)⟩
end Go.Proofs.Ytdmpnogjpgoaaaa

set_option linter.unusedSimpArgs false
namespace Go.Proofs.Ytdmpnogjpgoaaaa
open Go.RowKit Go.Proofs.YtdmpnogjpgoaaaaW.PrintWords Go.Proofs.YtdmpnogjpgoaaaaW.PrintLast Go.Proofs.YtdmpnogjpgoaaaaW.PrintMore
attribute [local go_sem high] sub76 sub76_0
set_option maxHeartbeats 400000 in
set_option maxRecDepth 100000 in
theorem less_any (n m : Nat) (w : World) (hm : m < MM ^ 4) :
    Calls Try.prog 63 #[.agg (aggN n), .agg (aggN m)] w fun e w' => e = .returned (.tuple #[.agg (aggN (n + MM ^ 4 - m)), .int .u64 (bw n m 4 : Nat)]) ∧ Below w.heap.size w w' := by
  have hu65 := Try.underlying67
  have HS := Lib.hid (fun k (hk : k < 4) => sb_wd n m k hm hk)
  generalize n + MM ^ 4 - m = s at *
  unfold aggN
  go_enter Try.func63, Try.ntmps63
  go_wp2
  go_loopw [9, 7] (fun i c wr => ∃ k : Nat, k ≤ 4 ∧ i = .int .i64 k ∧ c = .int .u64 (bw n m k : Nat) ∧ Aside0 (wr.heap[w.heap.size + 3]? = some (.cells (pk s k) 67 (0, 0))) ∧ Aside0 (wr.heap[w.heap.size + 2]? = some (.cells #[.int .u64 0, .int .u64 0, .int .u64 0, .int .u64 0] 67 (0, 0))) ∧ Aside0 (wr.heap[w.heap.size]? = some (.cells (aggN n) 67 (0, 0))) ∧ Aside0 (wr.heap[w.heap.size + 1]? = some (.cells (aggN m) 67 (0, 0))) ∧ Aside0 (Below w.heap.size w wr)) (fun i _ _ => (4 - intOf i).toNat)
  case atStart =>
    obtain ⟨h0, h1, h2, h3⟩ := blocks4 w (.cells (aggN n) 67) (.cells (aggN m) 67) (.cells #[.int .u64 0, .int .u64 0, .int .u64 0, .int .u64 0] 67) (.cells (pk s 0) 67)
    exact ⟨0, by omega, rfl, by rw [bw_0]; rfl, ⟨h3⟩, ⟨h2⟩, ⟨h0⟩, ⟨h1⟩, ⟨below_alloc (below_alloc (below_alloc (below_alloc (Below.refl _ _) _) _) _) _⟩⟩
  case round =>
    obtain ⟨k, hk, rfl, rfl, HB, HB0, HN, HM, HBel⟩ := hrel
    rcases (show k = 0 ∨ k = 1 ∨ k = 2 ∨ k = 3 ∨ k = 4 by omega) with rfl | rfl | rfl | rfl | rfl
    · have c0 : wr.cell? ⟨w.heap.size, 0, none⟩ = some (.int .u64 (wd n 0 : Nat)) := by rw [blk_cell HN.out]; rfl
      have c1 : wr.cell? ⟨w.heap.size + 1, 0, none⟩ = some (.int .u64 (wd m 0 : Nat)) := by rw [blk_cell HM.out]; rfl
      have c2 : wr.cell? ⟨w.heap.size + 3, 0, none⟩ = some (.int .u64 0) := by rw [blk_cell HB.out]; rfl
      have f2 := blk_frozen HB.out 0
      have hcy := bw_le n m 0
      have e1 := HS.out 0 (by omega)
      have e2 := bw_step n m 0
      generalize hcc : bw n m 0 = cc at *
      go_wp2_with fail
      go_region_held3 (fun w' => w'.cell? ⟨w.heap.size, 0, none⟩ = some (.int .u64 (wd n 0 : Nat)) ∧ w'.cell? ⟨w.heap.size + 1, 0, none⟩ = some (.int .u64 (wd m 0 : Nat))) (first | (exact ⟨(far3 _ (by dsimp only; omega)).trans c0, (far3 _ (by dsimp only; omega)).trans c1⟩) | go_keep) (simp only [sub76 _ _ _ hcy, e1, e2])
      go_wp2
      refine ⟨⟨0 + 1, by omega, by go_num, rfl, ⟨?_⟩, ⟨?_⟩, ⟨?_⟩, ⟨?_⟩, ⟨below_drew (below_set HBel.out (by omega))⟩⟩, by simp [intOf]⟩
      · exact blk_drew (blk_set HB.out 0 _)
      · exact blk_drew ((Below.heap_setCell _ _ _ _ (by dsimp only; omega)).trans HB0.out)
      · exact blk_drew ((Below.heap_setCell _ _ _ _ (by dsimp only; omega)).trans HN.out)
      · exact blk_drew ((Below.heap_setCell _ _ _ _ (by dsimp only; omega)).trans HM.out)
    · have c0 : wr.cell? ⟨w.heap.size, 1, none⟩ = some (.int .u64 (wd n 1 : Nat)) := by rw [blk_cell HN.out]; rfl
      have c1 : wr.cell? ⟨w.heap.size + 1, 1, none⟩ = some (.int .u64 (wd m 1 : Nat)) := by rw [blk_cell HM.out]; rfl
      have c2 : wr.cell? ⟨w.heap.size + 3, 1, none⟩ = some (.int .u64 0) := by rw [blk_cell HB.out]; rfl
      have f2 := blk_frozen HB.out 1
      have hcy := bw_le n m 1
      have e1 := HS.out 1 (by omega)
      have e2 := bw_step n m 1
      generalize hcc : bw n m 1 = cc at *
      go_wp2_with fail
      go_region_held3 (fun w' => w'.cell? ⟨w.heap.size, 1, none⟩ = some (.int .u64 (wd n 1 : Nat)) ∧ w'.cell? ⟨w.heap.size + 1, 1, none⟩ = some (.int .u64 (wd m 1 : Nat))) (first | (exact ⟨(far3 _ (by dsimp only; omega)).trans c0, (far3 _ (by dsimp only; omega)).trans c1⟩) | go_keep) (simp only [sub76 _ _ _ hcy, e1, e2])
      go_wp2
      refine ⟨⟨1 + 1, by omega, by go_num, rfl, ⟨?_⟩, ⟨?_⟩, ⟨?_⟩, ⟨?_⟩, ⟨below_drew (below_set HBel.out (by omega))⟩⟩, by simp [intOf]⟩
      · exact blk_drew (blk_set HB.out 1 _)
      · exact blk_drew ((Below.heap_setCell _ _ _ _ (by dsimp only; omega)).trans HB0.out)
      · exact blk_drew ((Below.heap_setCell _ _ _ _ (by dsimp only; omega)).trans HN.out)
      · exact blk_drew ((Below.heap_setCell _ _ _ _ (by dsimp only; omega)).trans HM.out)
    · have c0 : wr.cell? ⟨w.heap.size, 2, none⟩ = some (.int .u64 (wd n 2 : Nat)) := by rw [blk_cell HN.out]; rfl
      have c1 : wr.cell? ⟨w.heap.size + 1, 2, none⟩ = some (.int .u64 (wd m 2 : Nat)) := by rw [blk_cell HM.out]; rfl
      have c2 : wr.cell? ⟨w.heap.size + 3, 2, none⟩ = some (.int .u64 0) := by rw [blk_cell HB.out]; rfl
      have f2 := blk_frozen HB.out 2
      have hcy := bw_le n m 2
      have e1 := HS.out 2 (by omega)
      have e2 := bw_step n m 2
      generalize hcc : bw n m 2 = cc at *
      go_wp2_with fail
      go_region_held3 (fun w' => w'.cell? ⟨w.heap.size, 2, none⟩ = some (.int .u64 (wd n 2 : Nat)) ∧ w'.cell? ⟨w.heap.size + 1, 2, none⟩ = some (.int .u64 (wd m 2 : Nat))) (first | (exact ⟨(far3 _ (by dsimp only; omega)).trans c0, (far3 _ (by dsimp only; omega)).trans c1⟩) | go_keep) (simp only [sub76 _ _ _ hcy, e1, e2])
      go_wp2
      refine ⟨⟨2 + 1, by omega, by go_num, rfl, ⟨?_⟩, ⟨?_⟩, ⟨?_⟩, ⟨?_⟩, ⟨below_drew (below_set HBel.out (by omega))⟩⟩, by simp [intOf]⟩
      · exact blk_drew (blk_set HB.out 2 _)
      · exact blk_drew ((Below.heap_setCell _ _ _ _ (by dsimp only; omega)).trans HB0.out)
      · exact blk_drew ((Below.heap_setCell _ _ _ _ (by dsimp only; omega)).trans HN.out)
      · exact blk_drew ((Below.heap_setCell _ _ _ _ (by dsimp only; omega)).trans HM.out)
    · have c0 : wr.cell? ⟨w.heap.size, 3, none⟩ = some (.int .u64 (wd n 3 : Nat)) := by rw [blk_cell HN.out]; rfl
      have c1 : wr.cell? ⟨w.heap.size + 1, 3, none⟩ = some (.int .u64 (wd m 3 : Nat)) := by rw [blk_cell HM.out]; rfl
      have c2 : wr.cell? ⟨w.heap.size + 3, 3, none⟩ = some (.int .u64 0) := by rw [blk_cell HB.out]; rfl
      have f2 := blk_frozen HB.out 3
      have hcy := bw_le n m 3
      have e1 := HS.out 3 (by omega)
      have e2 := bw_step n m 3
      generalize hcc : bw n m 3 = cc at *
      go_wp2_with fail
      go_region_held3 (fun w' => w'.cell? ⟨w.heap.size, 3, none⟩ = some (.int .u64 (wd n 3 : Nat)) ∧ w'.cell? ⟨w.heap.size + 1, 3, none⟩ = some (.int .u64 (wd m 3 : Nat))) (first | (exact ⟨(far3 _ (by dsimp only; omega)).trans c0, (far3 _ (by dsimp only; omega)).trans c1⟩) | go_keep) (simp only [sub76 _ _ _ hcy, e1, e2])
      go_wp2
      refine ⟨⟨3 + 1, by omega, by go_num, rfl, ⟨?_⟩, ⟨?_⟩, ⟨?_⟩, ⟨?_⟩, ⟨below_drew (below_set HBel.out (by omega))⟩⟩, by simp [intOf]⟩
      · exact blk_drew (blk_set HB.out 3 _)
      · exact blk_drew ((Below.heap_setCell _ _ _ _ (by dsimp only; omega)).trans HB0.out)
      · exact blk_drew ((Below.heap_setCell _ _ _ _ (by dsimp only; omega)).trans HN.out)
      · exact blk_drew ((Below.heap_setCell _ _ _ _ (by dsimp only; omega)).trans HM.out)
    · have c0 : wr.cell? ⟨w.heap.size + 3, 0, none⟩ = some (.int .u64 (wd s 0)) := by rw [blk_cell HB.out]; rfl
      have c1 : wr.cell? ⟨w.heap.size + 3, 1, none⟩ = some (.int .u64 (wd s 1)) := by rw [blk_cell HB.out]; rfl
      have c2 : wr.cell? ⟨w.heap.size + 3, 2, none⟩ = some (.int .u64 (wd s 2)) := by rw [blk_cell HB.out]; rfl
      have c3 : wr.cell? ⟨w.heap.size + 3, 3, none⟩ = some (.int .u64 (wd s 3)) := by rw [blk_cell HB.out]; rfl
      have d0 : wr.cell? ⟨w.heap.size + 2, 0, none⟩ = some (.int .u64 0) := by rw [blk_cell HB0.out]; rfl
      have d1 : wr.cell? ⟨w.heap.size + 2, 1, none⟩ = some (.int .u64 0) := by rw [blk_cell HB0.out]; rfl
      have d2 : wr.cell? ⟨w.heap.size + 2, 2, none⟩ = some (.int .u64 0) := by rw [blk_cell HB0.out]; rfl
      have d3 : wr.cell? ⟨w.heap.size + 2, 3, none⟩ = some (.int .u64 0) := by rw [blk_cell HB0.out]; rfl
      have f0 := blk_frozen HB0.out 0
      have f1 := blk_frozen HB0.out 1
      have f2 := blk_frozen HB0.out 2
      have f3 := blk_frozen HB0.out 3
      go_wp2
      exact bodyPost_ret (v := .tuple #[.agg (aggN s), .int .u64 (bw n m 4 : Nat)]) (by simp [results, Try.results63, go_sem, aggN, *]) rfl ⟨rfl, below_set (below_set (below_set (below_set HBel.out (by omega)) (by omega)) (by omega)) (by omega)⟩
end Go.Proofs.Ytdmpnogjpgoaaaa

set_option linter.unusedSimpArgs false
namespace Go.Proofs.Ytdmpnogjpgoaaaa
open Go.RowKit Go.Proofs.YtdmpnogjpgoaaaaW.PrintWords Go.Proofs.YtdmpnogjpgoaaaaW.PrintLast Go.Proofs.YtdmpnogjpgoaaaaW.PrintMore
theorem and32 (a : Nat) (ha : a < 18446744073709551616) : Go.bits .and .u64 (a : Int) 4294967295 = ((a % 4294967296 : Nat) : Int) := by
  show IntKind.u64.wrap ((BitVec.ofInt 64 (a : Int) &&& BitVec.ofInt 64 ((4294967295 : Nat) : Int)).toNat : Int) = _
  rw [BitVec.ofInt_natCast, BitVec.ofInt_natCast, BitVec.toNat_and, BitVec.toNat_ofNat, BitVec.toNat_ofNat, Nat.mod_eq_of_lt (a := a) (by omega), Nat.mod_eq_of_lt (by decide)]
  rw [show (4294967295 : Nat) = 2 ^ 32 - 1 by decide, Nat.and_two_pow_sub_one_eq_mod, IntKind.wrap_u64]
  omega
theorem uw (n : Nat) (h : n < 18446744073709551616) : IntKind.u64.wrap (n : Int) = (n : Int) := by rw [IntKind.wrap_u64]; omega
theorem mul64 (a b : Nat) (ha : a < 18446744073709551616) (hb : b < 18446744073709551616) :
    PLimbTells.bits_Mul64.f a b = some (((a * b / 18446744073709551616 : Nat) : Int), ((a * b % 18446744073709551616 : Nat) : Int)) := by
  unfold PLimbTells.bits_Mul64.f
  have e1 : a = 4294967296 * (a / 4294967296) + a % 4294967296 := (Nat.div_add_mod a 4294967296).symm
  have e2 : b = 4294967296 * (b / 4294967296) + b % 4294967296 := (Nat.div_add_mod b 4294967296).symm
  have b1 : a / 4294967296 < 4294967296 := by omega
  have b2 : b / 4294967296 < 4294967296 := by omega
  have b3 : a % 4294967296 < 4294967296 := by omega
  have b4 : b % 4294967296 < 4294967296 := by omega
  rw [and32 a ha, and32 b hb]
  rw [show (a : Int) / 4294967296 = ((a / 4294967296 : Nat) : Int) by omega, show (b : Int) / 4294967296 = ((b / 4294967296 : Nat) : Int) by omega]
  have hab : a * b = 18446744073709551616 * (a / 4294967296 * (b / 4294967296)) + 4294967296 * (a / 4294967296 * (b % 4294967296)) + 4294967296 * (a % 4294967296 * (b / 4294967296)) + a % 4294967296 * (b % 4294967296) := by
    conv => lhs; rw [e1, e2]
    generalize a / 4294967296 = x
    generalize b / 4294967296 = y
    generalize a % 4294967296 = u
    generalize b % 4294967296 = v
    rw [Nat.add_mul, Nat.mul_add, Nat.mul_add]
    rw [show 4294967296 * x * (4294967296 * y) = 18446744073709551616 * (x * y) by rw [Nat.mul_mul_mul_comm], show 4294967296 * x * v = 4294967296 * (x * v) from Nat.mul_assoc _ _ _, show u * (4294967296 * y) = 4294967296 * (u * y) from Nat.mul_left_comm _ _ _]
    omega
  have hlo : IntKind.u64.wrap ((a : Int) * (b : Int)) = ((a * b % 18446744073709551616 : Nat) : Int) := by
    rw [← Int.natCast_mul, IntKind.wrap_u64]; omega
  rw [hlo, hab]
  have m1 := Nat.mul_le_mul (show a / 4294967296 ≤ 4294967295 by omega) (show b / 4294967296 ≤ 4294967295 by omega)
  have m2 := Nat.mul_le_mul (show a / 4294967296 ≤ 4294967295 by omega) (show b % 4294967296 ≤ 4294967295 by omega)
  have m3 := Nat.mul_le_mul (show a % 4294967296 ≤ 4294967295 by omega) (show b / 4294967296 ≤ 4294967295 by omega)
  have m4 := Nat.mul_le_mul (show a % 4294967296 ≤ 4294967295 by omega) (show b % 4294967296 ≤ 4294967295 by omega)
  rw [← Int.natCast_mul, ← Int.natCast_mul, ← Int.natCast_mul, ← Int.natCast_mul]
  generalize a / 4294967296 * (b / 4294967296) = p11 at *
  generalize a / 4294967296 * (b % 4294967296) = p10 at *
  generalize a % 4294967296 * (b / 4294967296) = p01 at *
  generalize a % 4294967296 * (b % 4294967296) = p00 at *
  clear e1 e2 b1 b2 b3 b4 hab hlo
  have w1 := uw p11 (by omega)
  have w2 := uw p10 (by omega)
  have w3 := uw p00 (by omega)
  have w4 := uw p01 (by omega)
  rw [w1, w2, w3, w4]
  rw [show (p00 : Int) / 4294967296 = ((p00 / 4294967296 : Nat) : Int) by omega, ← Int.natCast_add, uw (p10 + p00 / 4294967296) (by omega)]
  have hm := and32 (p10 + p00 / 4294967296) (by omega)
  rw [hm]
  rw [show ((p10 + p00 / 4294967296 : Nat) : Int) / 4294967296 = (((p10 + p00 / 4294967296) / 4294967296 : Nat) : Int) by omega, ← Int.natCast_add, uw (p11 + (p10 + p00 / 4294967296) / 4294967296) (by omega), ← Int.natCast_add, uw ((p10 + p00 / 4294967296) % 4294967296 + p01) (by omega)]
  rw [show (((p10 + p00 / 4294967296) % 4294967296 + p01 : Nat) : Int) / 4294967296 = ((((p10 + p00 / 4294967296) % 4294967296 + p01) / 4294967296 : Nat) : Int) by omega, ← Int.natCast_add, uw _ (by omega)]
  congr 2
  omega
/-- math/bits.Mul64 -/
theorem Mul64_any (a b : Nat) (ha : a < 18446744073709551616) (hb : b < 18446744073709551616) (w : World) :
    Calls Try.prog 95 #[.int .u64 a, .int .u64 b] w fun e w' => e = .returned (.tuple #[.int .u64 (a * b / 18446744073709551616 : Nat), .int .u64 (a * b % 18446744073709551616 : Nat)]) ∧ Drawn0 w w' :=
  PLimbTells.bits_Mul64.calls a b _ _ w (mul64 a b ha hb)
set_option maxHeartbeats 400000 in
theorem prime_any (w : World) : Calls Try.prog 64 #[] w fun e w' => e = .returned (.agg (aggN P25)) ∧ Below w.heap.size w w' := by
  have hu65 := Try.underlying67
  have hv : aggN P25 = #[.int .u64 18446744073709551597, .int .u64 18446744073709551615, .int .u64 18446744073709551615, .int .u64 9223372036854775807] := by
    unfold aggN
    rw [show wd P25 0 = 18446744073709551597 by decide +kernel, show wd P25 1 = 18446744073709551615 by decide +kernel, show wd P25 2 = 18446744073709551615 by decide +kernel, show wd P25 3 = 9223372036854775807 by decide +kernel]
    rfl
  rw [hv]
  clear hv
  go_enter Try.func64, Try.ntmps64
  go_wp2
  refine bodyPost_ret (v := .agg #[.int .u64 18446744073709551597, .int .u64 18446744073709551615, .int .u64 18446744073709551615, .int .u64 9223372036854775807]) (by simp [results, Try.results64, go_sem, *]) rfl ⟨rfl, ?_⟩
  exact below_alloc (Below.refl _ _) _
end Go.Proofs.Ytdmpnogjpgoaaaa

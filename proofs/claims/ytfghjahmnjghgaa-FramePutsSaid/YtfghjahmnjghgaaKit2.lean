import Derived.Test.YtfghjahmnjghgaaKit
import Derived.ArgAppend
namespace Go.Proofs.Ytfghjahmnjghgaa
open Go.RowKit Go.Proofs.YtfghjahmnjghgaaW.PrintWords
theorem reps_one {α : Type} {R : α → List Value → Prop} {size : Nat} {ps : List α} {cs : List Value} (h : Reps R size ps cs) (hs0 : 0 < size) (hR : ∀ p c, R p c → ∀ u ∈ c, u.oneCell' = true) : ∀ u ∈ cs, u.oneCell' = true := by
  intro u hu
  obtain ⟨q, hq, rfl⟩ := List.mem_iff_getElem.1 hu
  have hql : q / size < ps.length := by
    rw [Nat.div_lt_iff_lt_mul hs0, ← h.1]; exact hq
  refine hR _ _ (h.2 (q / size) _ (List.getElem?_eq_getElem hql)) _ ?_
  rw [List.mem_iff_getElem?]
  refine ⟨q % size, ?_⟩
  rw [List.getElem?_take, if_pos (Nat.mod_lt _ hs0), List.getElem?_drop, Nat.mul_comm, Nat.div_add_mod, List.getElem?_eq_getElem hq]
/-- A slice value that reads as xs. -/
def Out {α : Type} (d : Kd α) (w : World) (v : Value) (xs : List α) : Prop := ∃ A c, v = .slice A xs.length c ∧ xs.length ≤ c ∧ c ≤ 9223372036854775807 ∧ d.C w A xs.length xs
theorem Out.below {α : Type} {d : Kd α} {w w' : World} {v : Value} {xs : List α} (h : Out d w v xs) (hb : Below w.heap.size w w') : Out d w' v xs := by
  obtain ⟨A, c, rfl, h1, h2, h3⟩ := h
  exact ⟨A, c, rfl, h1, h2, Kd.C_below h3 hb⟩
theorem Out_nil {α : Type} (d : Kd α) (w : World) : Out d w (.slice none 0 0) [] := ⟨none, 0, rfl, Nat.le_refl _, by omega, Kd.C_nil d w⟩
theorem C_box {α : Type} {d : Kd α} {W : World} {p : α} {cs : List Value} (e : TypeId) (h : d.K (W.alloc (.cells cs.toArray e)) p cs) : d.C (W.alloc (.cells cs.toArray e)) (some ⟨W.heap.size, 0, none⟩) 1 [p] := by
  refine ⟨rfl, by omega, fun _ => ⟨_, rfl, fun j q hj => ?_⟩⟩
  rcases j with _ | j
  · have hq : p = q := by simpa using hj
    subst hq
    refine ⟨cs, d.K_len h, h, fun i u hu => ?_⟩
    rw [Nat.zero_mul, Nat.zero_add]
    exact World.news_of_block (cs := cs.toArray) (t := e) (fr := (0, 0)) (heap_alloc_new W (.cells cs.toArray e)) i u (by simpa using hu)
  · simp at hj
theorem keep1 {w w' : World} {a0 : Addr} {v0 : Value} (hb : Below w.heap.size w w') (h : w.cell? a0 = some v0) : w'.cell? a0 = some v0 := pw_cell_below hb h
theorem keep2 {w w' : World} {a0 a1 : Addr} {v0 v1 : Value} (hb : Below w.heap.size w w') (h : w.cell? a0 = some v0 ∧ w.cell? a1 = some v1) : w'.cell? a0 = some v0 ∧ w'.cell? a1 = some v1 := by
  obtain ⟨h0, h1⟩ := h
  exact ⟨pw_cell_below hb h0, pw_cell_below hb h1⟩
theorem keep3 {w w' : World} {a0 a1 a2 : Addr} {v0 v1 v2 : Value} (hb : Below w.heap.size w w') (h : w.cell? a0 = some v0 ∧ w.cell? a1 = some v1 ∧ w.cell? a2 = some v2) : w'.cell? a0 = some v0 ∧ w'.cell? a1 = some v1 ∧ w'.cell? a2 = some v2 := by
  obtain ⟨h0, h1, h2⟩ := h
  exact ⟨pw_cell_below hb h0, pw_cell_below hb h1, pw_cell_below hb h2⟩
theorem keep4 {w w' : World} {a0 a1 a2 a3 : Addr} {v0 v1 v2 v3 : Value} (hb : Below w.heap.size w w') (h : w.cell? a0 = some v0 ∧ w.cell? a1 = some v1 ∧ w.cell? a2 = some v2 ∧ w.cell? a3 = some v3) : w'.cell? a0 = some v0 ∧ w'.cell? a1 = some v1 ∧ w'.cell? a2 = some v2 ∧ w'.cell? a3 = some v3 := by
  obtain ⟨h0, h1, h2, h3⟩ := h
  exact ⟨pw_cell_below hb h0, pw_cell_below hb h1, pw_cell_below hb h2, pw_cell_below hb h3⟩
theorem keep5 {w w' : World} {a0 a1 a2 a3 a4 : Addr} {v0 v1 v2 v3 v4 : Value} (hb : Below w.heap.size w w') (h : w.cell? a0 = some v0 ∧ w.cell? a1 = some v1 ∧ w.cell? a2 = some v2 ∧ w.cell? a3 = some v3 ∧ w.cell? a4 = some v4) : w'.cell? a0 = some v0 ∧ w'.cell? a1 = some v1 ∧ w'.cell? a2 = some v2 ∧ w'.cell? a3 = some v3 ∧ w'.cell? a4 = some v4 := by
  obtain ⟨h0, h1, h2, h3, h4⟩ := h
  exact ⟨pw_cell_below hb h0, pw_cell_below hb h1, pw_cell_below hb h2, pw_cell_below hb h3, pw_cell_below hb h4⟩
theorem keep6 {w w' : World} {a0 a1 a2 a3 a4 a5 : Addr} {v0 v1 v2 v3 v4 v5 : Value} (hb : Below w.heap.size w w') (h : w.cell? a0 = some v0 ∧ w.cell? a1 = some v1 ∧ w.cell? a2 = some v2 ∧ w.cell? a3 = some v3 ∧ w.cell? a4 = some v4 ∧ w.cell? a5 = some v5) : w'.cell? a0 = some v0 ∧ w'.cell? a1 = some v1 ∧ w'.cell? a2 = some v2 ∧ w'.cell? a3 = some v3 ∧ w'.cell? a4 = some v4 ∧ w'.cell? a5 = some v5 := by
  obtain ⟨h0, h1, h2, h3, h4, h5⟩ := h
  exact ⟨pw_cell_below hb h0, pw_cell_below hb h1, pw_cell_below hb h2, pw_cell_below hb h3, pw_cell_below hb h4, pw_cell_below hb h5⟩
theorem keep7 {w w' : World} {a0 a1 a2 a3 a4 a5 a6 : Addr} {v0 v1 v2 v3 v4 v5 v6 : Value} (hb : Below w.heap.size w w') (h : w.cell? a0 = some v0 ∧ w.cell? a1 = some v1 ∧ w.cell? a2 = some v2 ∧ w.cell? a3 = some v3 ∧ w.cell? a4 = some v4 ∧ w.cell? a5 = some v5 ∧ w.cell? a6 = some v6) : w'.cell? a0 = some v0 ∧ w'.cell? a1 = some v1 ∧ w'.cell? a2 = some v2 ∧ w'.cell? a3 = some v3 ∧ w'.cell? a4 = some v4 ∧ w'.cell? a5 = some v5 ∧ w'.cell? a6 = some v6 := by
  obtain ⟨h0, h1, h2, h3, h4, h5, h6⟩ := h
  exact ⟨pw_cell_below hb h0, pw_cell_below hb h1, pw_cell_below hb h2, pw_cell_below hb h3, pw_cell_below hb h4, pw_cell_below hb h5, pw_cell_below hb h6⟩
theorem keep8 {w w' : World} {a0 a1 a2 a3 a4 a5 a6 a7 : Addr} {v0 v1 v2 v3 v4 v5 v6 v7 : Value} (hb : Below w.heap.size w w') (h : w.cell? a0 = some v0 ∧ w.cell? a1 = some v1 ∧ w.cell? a2 = some v2 ∧ w.cell? a3 = some v3 ∧ w.cell? a4 = some v4 ∧ w.cell? a5 = some v5 ∧ w.cell? a6 = some v6 ∧ w.cell? a7 = some v7) : w'.cell? a0 = some v0 ∧ w'.cell? a1 = some v1 ∧ w'.cell? a2 = some v2 ∧ w'.cell? a3 = some v3 ∧ w'.cell? a4 = some v4 ∧ w'.cell? a5 = some v5 ∧ w'.cell? a6 = some v6 ∧ w'.cell? a7 = some v7 := by
  obtain ⟨h0, h1, h2, h3, h4, h5, h6, h7⟩ := h
  exact ⟨pw_cell_below hb h0, pw_cell_below hb h1, pw_cell_below hb h2, pw_cell_below hb h3, pw_cell_below hb h4, pw_cell_below hb h5, pw_cell_below hb h6, pw_cell_below hb h7⟩
section
variable {P : Program} {ops : Array Oper} {rest : List Oper} {o : Oper} {a : Act} {Q : Exit → Act → World → Prop} {α : Type} {W : World}
/-- append(v, ys...) onto a full slice (of whomever): a new row. -/
theorem run_app_full (d : Kd α) (t ty e : TypeId) (z : Value) (bytes : Nat)
    (ht : P.underlying t = some (.slice e)) (hinfo : (P.info? e).map (fun i => (i.zero, i.size, i.bytes)) = some (some z, d.sz, bytes)) (hz : z.cells.size = d.sz) (hs0 : 0 < d.sz) (hb0 : 0 < bytes)
    (A : Option Addr) (n cap : Nat) (xs : List α) (hC : d.C W A n xs) (hn : A = none → n = 0 ∧ cap = 0)
    (Ax : Option Addr) (m c : Nat) (ys : List α) (hC2 : d.C W Ax m ys) (hm : cap < n + m) (hm0 : 0 < m) (hl : (n + m) * bytes ≤ 140737488355328) :
    ∃ v1 w1, (Builtin.append_ #[t, t] ty #[.slice A n cap, .slice Ax m c]).run P W = .ok v1 w1 ∧ Out d w1 v1 (xs ++ ys) ∧ Below W.heap.size W w1 := by
  obtain ⟨i0, hi, hzz⟩ := Option.map_eq_some_iff.1 hinfo
  simp only [Prod.mk.injEq] at hzz
  obtain ⟨hz0, hz1, hz2⟩ := hzz
  have hlen : n + m ≤ 140737488355328 := Nat.le_trans (Nat.le_mul_of_pos_right _ hb0) hl
  obtain ⟨adx, rfl, _⟩ := hC2.2.2 hm0
  obtain ⟨news, hr2, hc2⟩ := ReadsRow.inner_ hC2
  have hny : ys.length = m := hC2.1
  have hnx : xs.length = n := hC.1
  have hxy : (xs ++ ys).length = n + m := by rw [List.length_append, hnx, hny]
  have fin : ∀ v1 w1 (olds : List Value), Reps (d.K W) d.sz xs olds → w1.ownsRow W.heap.size e d.sz v1 (n + m) (olds ++ news) → W.grownBy w1 none → Out d w1 v1 (xs ++ ys) ∧ Below W.heap.size W w1 := by
    intro v1 w1 olds hr1 hown hg
    have hb : Below W.heap.size W w1 := (Below.refl _ _).grown hg (Nat.le_refl _) (fun k hk => by cases hk)
    refine ⟨?_, hb⟩
    obtain ⟨A1, c1, rfl, hr⟩ := own_reads_row hown ((Kd.reps_append hr1 hr2).imp_ (fun p c hk => d.K_below hb hk)) hxy
    have hcc : n + m ≤ c1 ∧ c1 ≤ 9223372036854775807 := by
      rcases hown.2 with ⟨he, h0⟩ | ⟨g, cap, cur, he, _, _, h2, h3, _⟩
      · omega
      · injection he with _ _ he
        subst he
        exact ⟨h2, by simpa [maxLen] using h3⟩
    refine ⟨A1, c1, by rw [hxy], by omega, hcc.2, ?_⟩
    rw [hxy]; exact hr
  cases A with
  | none =>
    obtain ⟨rfl, rfl⟩ := hn rfl
    obtain rfl : xs = [] := List.eq_nil_of_length_eq_zero hnx
    obtain ⟨v1, w1, hrun, h1, h2, _⟩ := run_append_own (P := P) W W.heap.size t ty e i0 z d.sz bytes ht hi hz0 hz1 hz2 hz hs0 (.slice none 0 0) 0 [] (World.ownsRow_nil _ _ _ _) adx m c news (by rw [hr2.1, hny]) hc2 (reps_one hr2 hs0 (fun p c hk => d.K_one hk)) (by simp only [maxLen]; omega) hl (Nat.le_refl _)
    exact ⟨v1, w1, hrun, fin v1 w1 [] (Reps.none _ _) h1 h2⟩
  | some b =>
    obtain ⟨olds, hr1, hc1⟩ := ReadsRow.inner_ hC
    obtain ⟨v1, w1, hrun, h1, h2⟩ := run_append_arg_grows (P := P) W t ty e i0 z d.sz bytes ht hi hz0 hz1 hz2 hz hs0 b n cap olds (by rw [hr1.1, hnx]) hc1 adx m c news (by rw [hr2.1, hny]) hc2 hm (by simp only [maxLen]; omega) hl
    exact ⟨v1, w1, hrun, fin v1 w1 olds hr1 h1 h2⟩
theorem app_full (d : Kd α) (s x : Operand) (t e : TypeId) (z : Value) (bytes : Nat) (hgd : o.guard = none)
    (ho : o.op = .call { callee := .builtin .append, args := #[s, x], argTypes := #[t, t] })
    (ht : P.underlying t = some (.slice e)) (hinfo : (P.info? e).map (fun i => (i.zero, i.size, i.bytes)) = some (some z, d.sz, bytes)) (hz : z.cells.size = d.sz) (hs0 : 0 < d.sz) (hb0 : 0 < bytes)
    (A : Option Addr) (n cap : Nat) (xs : List α) (hs : a.eval s = .slice A n cap) (hC : d.C W A n xs) (hn : A = none → n = 0 ∧ cap = 0)
    (Ax : Option Addr) (m c : Nat) (ys : List α) (hx : a.eval x = .slice Ax m c) (hC2 : d.C W Ax m ys) (hm : cap < n + m) (hm0 : 0 < m) (hl : (n + m) * bytes ≤ 140737488355328)
    (h : ∀ v1 w1, Out d w1 v1 (xs ++ ys) → Below W.heap.size W w1 → wpList P ops Q rest (a.put o.dst v1) w1) :
    wpList P ops Q (o :: rest) a W := by
  obtain ⟨v1, w1, hrun, h1, h2⟩ := run_app_full (P := P) d t o.type e z bytes ht hinfo hz hs0 hb0 A n cap xs hC hn Ax m c ys hC2 hm hm0 hl
  refine wpList_plain hgd fun K hK => ?_
  unfold Oper.wp execOp
  simp only [ho, resolve, invoke, builtin, Sem.run_bind, Sem.run_pure, Result.andThen_ok, List.map_toArray, List.map_cons, List.map_nil, hs, hx, hrun]
  exact hK _ _ (h v1 w1 h1 h2)
/-- The same as a step of a region that draws its order. -/
theorem app_full_step (d : Kd α) {Kc : Act → World → Prop} {N : Option Tmp} (s x : Operand) (t e : TypeId) (z : Value) (bytes : Nat) (hw : Region.wanted o (yielded ops a.tmps) = true) (hN : o.dst = N)
    (ho : o.op = .call { callee := .builtin .append, args := #[s, x], argTypes := #[t, t] })
    (ht : P.underlying t = some (.slice e)) (hinfo : (P.info? e).map (fun i => (i.zero, i.size, i.bytes)) = some (some z, d.sz, bytes)) (hz : z.cells.size = d.sz) (hs0 : 0 < d.sz) (hb0 : 0 < bytes)
    (A : Option Addr) (n cap : Nat) (xs : List α) (hs : a.eval s = .slice A n cap) (hC : d.C W A n xs) (hn : A = none → n = 0 ∧ cap = 0)
    (Ax : Option Addr) (m c : Nat) (ys : List α) (hx : a.eval x = .slice Ax m c) (hC2 : d.C W Ax m ys) (hm : cap < n + m) (hm0 : 0 < m) (hl : (n + m) * bytes ≤ 140737488355328)
    (h : ∀ v1 w1, Out d w1 v1 (xs ++ ys) → Below W.heap.size W w1 → Kc (a.put N v1) w1) :
    if Region.wanted o (yielded ops a.tmps) = true then Oper.wp P o a W Kc Q else Kc (a.put N undef) W := by
  obtain ⟨v1, w1, hrun, h1, h2⟩ := run_app_full (P := P) d t o.type e z bytes ht hinfo hz hs0 hb0 A n cap xs hC hn Ax m c ys hC2 hm hm0 hl
  rw [if_pos hw]
  subst hN
  unfold Oper.wp execOp
  simp only [ho, resolve, invoke, builtin, Sem.run_bind, Sem.run_pure, Result.andThen_ok, List.map_toArray, List.map_cons, List.map_nil, hs, hx, hrun]
  exact h v1 w1 h1 h2
/-- append(v, ys...) where ys is empty: v itself. -/
theorem run_app_none (t ty e : TypeId) (ht : P.underlying t = some (.slice e)) (hinfo : (P.info? e).isSome = true)
    (A : Option Addr) (n cap : Nat) (hnc : n ≤ cap) (hn : A = none → n = 0) (Ax : Option Addr) (c : Nat) :
    (Builtin.append_ #[t, t] ty #[.slice A n cap, .slice Ax 0 c]).run P W = .ok (.slice A n cap) W := by
  obtain ⟨i0, hi⟩ := Option.isSome_iff_exists.1 hinfo
  cases A with
  | none =>
    obtain rfl := hn rfl
    cases Ax <;> simp [Builtin.append_, run_underlying ht, sizeOf, typeInfo, hi, Builtin.lenOf, Builtin.firstCells, hnc, loadCells, loadCellsFrom]
  | some b =>
    cases Ax <;> simp [Builtin.append_, run_underlying ht, sizeOf, typeInfo, hi, Builtin.lenOf, Builtin.firstCells, hnc, storeCells, loadCells, loadCellsFrom]
theorem app_none_step {Kc : Act → World → Prop} {N : Option Tmp} (s x : Operand) (t e : TypeId) (hw : Region.wanted o (yielded ops a.tmps) = true) (hN : o.dst = N)
    (ho : o.op = .call { callee := .builtin .append, args := #[s, x], argTypes := #[t, t] })
    (ht : P.underlying t = some (.slice e)) (hinfo : (P.info? e).isSome = true)
    (A : Option Addr) (n cap : Nat) (hs : a.eval s = .slice A n cap) (hnc : n ≤ cap) (hn : A = none → n = 0) (Ax : Option Addr) (c : Nat) (hx : a.eval x = .slice Ax 0 c)
    (h : Kc (a.put N (.slice A n cap)) W) :
    if Region.wanted o (yielded ops a.tmps) = true then Oper.wp P o a W Kc Q else Kc (a.put N undef) W := by
  have hrun := run_app_none (P := P) (W := W) t o.type e ht hinfo A n cap hnc hn Ax c
  rw [if_pos hw]
  subst hN
  unfold Oper.wp execOp
  simp only [ho, resolve, invoke, builtin, Sem.run_bind, Sem.run_pure, Result.andThen_ok, List.map_toArray, List.map_cons, List.map_nil, hs, hx, hrun]
  exact h
end
theorem C_drop {α : Type} {d : Kd α} {ad : Addr} {n : Nat} {xs : List α} {w : World} (h : d.C w (some ad) n xs) (k : Nat) (hk : k ≤ n) : d.C w (some (ad.add (k * d.sz))) (n - k) (xs.drop k) := by
  obtain ⟨h1, h2, h3⟩ := h
  refine ⟨by simp; omega, by omega, fun hp => ?_⟩
  obtain ⟨ad', e, hc⟩ := h3 (by omega)
  injection e with e
  subst e
  refine ⟨_, rfl, fun j p hj => ?_⟩
  obtain ⟨c, hl, hK, hcell⟩ := hc (k + j) p (by rw [List.getElem?_drop] at hj; exact hj)
  refine ⟨c, hl, hK, fun i u hu => ?_⟩
  rw [add_add, show k * d.sz + (j * d.sz + i) = (k + j) * d.sz + i by rw [Nat.add_mul]; omega]
  exact hcell i u hu
theorem C_take {α : Type} {d : Kd α} {A : Option Addr} {n : Nat} {xs : List α} {w : World} (h : d.C w A n xs) (k : Nat) (hk : k ≤ n) : d.C w A k (xs.take k) := by
  obtain ⟨h1, h2, h3⟩ := h
  refine ⟨by simp; omega, by omega, fun hp => ?_⟩
  obtain ⟨ad, e, hc⟩ := h3 (by omega)
  exact ⟨ad, e, fun j p hj => hc j p (by rw [List.getElem?_take] at hj; split at hj <;> first | exact hj | cases hj)⟩
end Go.Proofs.Ytfghjahmnjghgaa

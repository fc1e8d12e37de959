import Derived.Test.YtnkfdpkjphbheaaSkE
namespace Go.Proofs.Ytnkfdpkjphbheaa
open Go.RowKit Go.Proofs.YtnkfdpkjphbheaaW.PrintWords Go.Proofs.YtnkfdpkjphbheaaW.PrintLast
theorem eqS (p q : KeptD) : (!((((toS p).f0).toList) == (((toS q).f0).toList)) || (!(((toS p).f1) == ((toS q).f1)) || (!((((toS p).f2).toList) == (((toS q).f2).toList))))) = !decide (p = q) := by
  obtain ⟨a, b, c⟩ := p
  obtain ⟨a', b', c'⟩ := q
  show (!(a.toList == a'.toList) || (!((b : Int) == (b' : Int)) || !(c.toList == c'.toList))) = _
  rw [toList_inj, toList_inj, int_beq, Bool.eq_iff_iff]
  by_cases h1 : a = a' <;> by_cases h2 : b = b' <;> by_cases h3 : c = c' <;> simp [h1, h2, h3]
theorem drop_ne {α : Type} [DecidableEq α] {xs ys : List α} {i : Nat} {p q : α} (hx : xs[i]? = some p) (hy : ys[i]? = some q) : decide (xs.drop i = ys.drop i) = (decide (p = q) && decide (xs.drop (i + 1) = ys.drop (i + 1))) := by
  obtain ⟨h1, rfl⟩ := List.getElem?_eq_some_iff.1 hx
  obtain ⟨h2, rfl⟩ := List.getElem?_eq_some_iff.1 hy
  rw [List.drop_eq_getElem_cons h1, List.drop_eq_getElem_cons h2, Bool.eq_iff_iff]
  simp only [decide_eq_true_iff, Bool.and_eq_true, List.cons.injEq]
theorem sameS_l (xs ys : List KeptD) (hx : xs.length ≤ 1000) (hy : ys.length = xs.length) : ∀ k i : Nat, i ≤ xs.length → xs.length - i < k → PSkippedTables.demurralref12_Same.l0 k (xs.map toS) (ys.map toS) xs.length i = some (decide (xs.drop i = ys.drop i)) := by
  intro k
  induction k with
  | zero => intro i _ h; omega
  | succ k ih =>
    intro i hi hk
    unfold PSkippedTables.demurralref12_Same.l0
    by_cases hlt : i < xs.length
    · have hp := List.getElem?_eq_getElem hlt
      have hq := List.getElem?_eq_getElem (hy ▸ hlt : i < ys.length)
      generalize xs[i] = p at hp
      generalize ys[i] = q at hq
      rw [if_pos (by omega), if_pos (by omega), if_pos (by simp; omega), if_pos (by simp; omega), rd_map hp, rd_map hq, eqS, drop_ne hp hq]
      by_cases h : p = q
      · rw [if_neg (by simp [h]), wrap1 i (by omega), ih (i + 1) (by omega) (by omega), decide_eq_true h]; rfl
      · rw [if_pos (by simp [h]), decide_eq_false h]; rfl
    · rw [if_neg (by omega), List.drop_eq_nil_of_le (by omega), List.drop_eq_nil_of_le (by omega)]; rfl
theorem sameS (xs ys : List KeptD) (hx : xs.length ≤ 1000) : PSkippedTables.demurralref12_Same.f (xs.length + 1) (xs.map toS) (ys.map toS) = some (decide (xs = ys)) := by
  unfold PSkippedTables.demurralref12_Same.f
  rw [List.length_map, List.length_map]
  by_cases h : xs.length = ys.length
  · rw [if_pos (by omega)]
    exact sameS_l xs ys hx h.symm _ 0 (by omega) (by omega)
  · rw [if_neg (by omega), decide_eq_false (fun e => h (by rw [e]))]
theorem likeS_l (xs ys : List KeptD) (hx : xs.length ≤ 1000) (hy : ys.length = xs.length) : ∀ k i : Nat, i ≤ xs.length → xs.length - i < k → PSkippedTables.api_Kept_36.l0 k (xs.map toS) (ys.map toS) xs.length i = some (decide (xs.drop i = ys.drop i)) := by
  intro k
  induction k with
  | zero => intro i _ h; omega
  | succ k ih =>
    intro i hi hk
    unfold PSkippedTables.api_Kept_36.l0
    by_cases hlt : i < xs.length
    · have hp := List.getElem?_eq_getElem hlt
      have hq := List.getElem?_eq_getElem (hy ▸ hlt : i < ys.length)
      generalize xs[i] = p at hp
      generalize ys[i] = q at hq
      rw [if_pos (by omega), if_pos (by omega), if_pos (by simp; omega), if_pos (by simp; omega), rd_map hp, rd_map hq, eqS, drop_ne hp hq]
      by_cases h : p = q
      · rw [if_neg (by simp [h]), wrap1 i (by omega), ih (i + 1) (by omega) (by omega), decide_eq_true h]; rfl
      · rw [if_pos (by simp [h]), decide_eq_false h]; rfl
    · rw [if_neg (by omega), List.drop_eq_nil_of_le (by omega), List.drop_eq_nil_of_le (by omega)]; rfl
theorem likeS (xs ys : List KeptD) (hx : xs.length ≤ 1000) : PSkippedTables.skipped_Like.f (xs.length + 1) (xs.map toS) (ys.map toS) = some (decide (xs = ys)) := by
  unfold PSkippedTables.skipped_Like.f PSkippedTables.api_Kept_36.f
  rw [List.length_map, List.length_map]
  by_cases h : xs.length = ys.length
  · have := likeS_l xs ys hx h.symm (xs.length + 1) 0 (by omega) (by omega)
    rw [if_pos (by omega)]
    exact (congrArg (fun o => Option.bind o fun t => some t) this).trans rfl
  · rw [if_neg (by omega), decide_eq_false (fun e => h (by rw [e]))]; rfl
theorem withoutS_l (xs : List KeptD) (a : Nat) (hx : xs.length ≤ 1000) (ha : a < xs.length) : ∀ k i : Nat, i ≤ xs.length → xs.length - i < k → PSkippedTables.demurralref12_Without.l0 k a (((xs.take a).take i ++ (xs.take i).drop (a + 1)).map toS) (xs.map toS) xs.length i = some ((xs.take a ++ xs.drop (a + 1)).map toS) := by
  intro k
  induction k with
  | zero => intro i _ h; omega
  | succ k ih =>
    intro i hi hk
    unfold PSkippedTables.demurralref12_Without.l0
    by_cases hlt : i < xs.length
    · have hp := List.getElem?_eq_getElem hlt
      generalize xs[i] = p at hp
      rw [if_pos (by omega), if_pos (by omega), if_pos (by simp; omega), rd_map hp, wrap1 i (by omega)]
      have hr := ih (i + 1) (by omega) (by omega)
      by_cases h : i = a
      · subst h
        rw [if_pos rfl]
        rw [show (xs.take i).take (i + 1) = (xs.take i).take i by rw [List.take_take, List.take_take]; congr 1; omega, show (xs.take (i + 1)).drop (i + 1) = [] by simp] at hr
        rw [show (xs.take i).drop (i + 1) = [] by simp; omega]
        exact hr
      · rw [if_neg (by omega), if_pos (by simp; omega)]
        by_cases h2 : i < a
        · have e1 : (xs.take a).take (i + 1) = (xs.take a).take i ++ [p] := take_next (by rw [List.getElem?_take, if_pos h2]; exact hp)
          have e2 : (xs.take (i + 1)).drop (a + 1) = [] := by simp; omega
          have e3 : (xs.take i).drop (a + 1) = [] := by simp; omega
          rw [e1, e2] at hr
          rw [e3]
          rw [← hr]; congr 1; simp [toS]
        · have e1 : (xs.take a).take (i + 1) = (xs.take a).take i := by rw [List.take_take, List.take_take]; congr 1; omega
          have e2 : (xs.take (i + 1)).drop (a + 1) = (xs.take i).drop (a + 1) ++ [p] := by
            rw [take_next hp, List.drop_append_of_le_length (by simp; omega)]
          rw [e1, e2] at hr
          rw [← hr]; congr 1; simp [toS]
    · rw [if_neg (by omega), List.take_of_length_le (l := xs.take a) (by simp; omega), List.take_of_length_le (l := xs) (i := i) (by omega)]
theorem withoutS (xs : List KeptD) (a : Nat) (hx : xs.length ≤ 1000) (ha : a < xs.length) : PSkippedTables.demurralref12_Without.f (xs.length + 1) (xs.map toS) a = some ((xs.take a ++ xs.drop (a + 1)).map toS) := by
  unfold PSkippedTables.demurralref12_Without.f
  rw [List.length_map]
  exact withoutS_l xs a hx ha _ 0 (by omega) (by omega)
theorem putS_l (xs : List KeptD) (p : KeptD) (hx : xs.length ≤ 1000) : ∀ k i : Nat, i ≤ xs.length → xs.length - i < k → PSkippedTables.demurralref12_Put.l0 k (xs.map toS) ((if xs.length < 20 then xs.take i else (xs.take i).drop 1).map toS) (xs.map toS) xs.length i p.r p.n p.k = some (((if xs.length < 20 then xs else xs.drop 1) ++ [p]).map toS) := by
  intro k
  induction k with
  | zero => intro i _ h; omega
  | succ k ih =>
    intro i hi hk
    unfold PSkippedTables.demurralref12_Put.l0
    by_cases hlt : i < xs.length
    · have hq := List.getElem?_eq_getElem hlt
      generalize xs[i] = q at hq
      have hr := ih (i + 1) (by omega) (by omega)
      rw [if_pos (by omega), if_pos (by omega), if_pos (by simp; omega), rd_map hq, wrap1 i (by omega)]
      by_cases h2 : xs.length < 20
      · rw [if_pos h2, take_next hq] at hr
        rw [if_pos h2]
        have e : (List.take i xs ++ [q]).map toS = (List.take i xs).map toS ++ [⟨(toS q).f0, (toS q).f1, (toS q).f2⟩] := by simp [toS]
        rw [e] at hr
        by_cases h3 : 0 < i
        · rw [if_pos (by omega), if_pos (by simp; omega)]; exact hr
        · rw [if_neg (by omega), if_pos (by simp; omega), if_pos (by simp; omega)]; exact hr
      · rw [if_neg h2] at hr ⊢
        by_cases h3 : 0 < i
        · rw [take_next hq, List.drop_append_of_le_length (by simp; omega)] at hr
          have e : ((List.take i xs).drop 1 ++ [q]).map toS = ((List.take i xs).drop 1).map toS ++ [⟨(toS q).f0, (toS q).f1, (toS q).f2⟩] := by simp [toS]
          rw [e] at hr
          rw [if_pos (by omega), if_pos (by simp; omega)]; exact hr
        · obtain rfl : i = 0 := by omega
          rw [if_neg (by omega), if_neg (by simp; omega)]
          rw [show (xs.take (0 + 1)).drop 1 = [] by simp] at hr
          exact hr
    · have e : xs.take i = xs := List.take_of_length_le (by omega)
      rw [if_neg (by omega), if_pos (by rw [e]; split <;> simp <;> omega), e]
      split <;> simp [toS]
theorem putS (xs : List KeptD) (p : KeptD) (hx : xs.length ≤ 1000) : PSkippedTables.demurralref12_Put.f (xs.length + 1) (xs.map toS) p.r p.n p.k = some (((if xs.length < 20 then xs else xs.drop 1) ++ [p]).map toS) := by
  unfold PSkippedTables.demurralref12_Put.f
  rw [List.length_map]
  have := putS_l xs p hx (xs.length + 1) 0 (by omega) (by omega)
  simpa using this
end Go.Proofs.Ytnkfdpkjphbheaa

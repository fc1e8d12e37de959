import Derived.Test.YtnkfdpkjphbheaaSkD
namespace Go.Proofs.Ytnkfdpkjphbheaa
open Go.RowKit
theorem atI_neg (xs : List KeptD) (r : ByteArray) (n : Nat) : atI xs r n < 0 ↔ ∀ q ∈ xs, sameN q r n = false := by
  unfold atI
  cases h : xs.any (fun x => sameN x r n)
  · rw [if_neg (by simp)]
    rw [List.any_eq_false] at h
    exact ⟨fun _ q hq => by simpa using h q hq, fun _ => by omega⟩
  · rw [if_pos rfl]
    obtain ⟨q, hq, h1⟩ := List.any_eq_true.1 h
    exact ⟨fun h2 => by omega, fun h2 => by rw [h2 q hq] at h1; cases h1⟩
theorem rightK_iff (xs : List KeptD) : rightK xs = true ↔ xs.length ≤ 20 ∧ (∀ q ∈ xs, sizedK q = true) ∧ xs.Pairwise (fun a b => sameN a b.r b.n = false) := by
  unfold rightK
  rw [Bool.and_eq_true, decide_eq_true_iff, List.all_eq_true, And.comm]
  refine and_congr Iff.rfl ?_
  rw [List.pairwise_iff_getElem]
  constructor
  · intro h
    have h' : ∀ (k : Nat) (hk : k < xs.length), sizedK xs[k] = true ∧ ∀ q ∈ xs.take k, sameN q xs[k].r xs[k].n = false := fun k hk => by
      have := h k (List.mem_range.2 hk)
      unfold okAt at this
      rw [List.getElem?_eq_getElem hk] at this
      simp only [Bool.and_eq_true, decide_eq_true_iff] at this
      exact ⟨this.1, (atI_neg _ _ _).1 this.2⟩
    refine ⟨fun q hq => ?_, fun i j hi hj hij => (h' j hj).2 _ (List.mem_iff_getElem?.2 ⟨i, by rw [List.getElem?_take, if_pos hij, List.getElem?_eq_getElem hi]⟩)⟩
    obtain ⟨k, hk, rfl⟩ := List.mem_iff_getElem.1 hq
    exact (h' k hk).1
  · rintro ⟨h1, h2⟩ k hk
    have hk := List.mem_range.1 hk
    unfold okAt
    rw [List.getElem?_eq_getElem hk]
    simp only [Bool.and_eq_true, decide_eq_true_iff]
    refine ⟨h1 _ (List.getElem_mem hk), (atI_neg _ _ _).2 (fun q hq => ?_)⟩
    obtain ⟨i, hi, rfl⟩ := List.mem_iff_getElem.1 hq
    rw [List.length_take] at hi
    rw [List.getElem_take]
    exact h2 i k (by omega) hk (by omega)
/-- what is left of a table where one more is put -/
def restK (xs : List KeptD) : List KeptD := if xs.length = 20 then xs.drop 1 else xs
theorem putK_eq (xs : List KeptD) (x : KeptD) : putK xs x = restK xs ++ [x] := rfl
theorem once_facts {xs : List KeptD} {x : KeptD} (h : putE xs x = 0) :
    rightK (restK xs) = true ∧ rightK (putK xs x) = true ∧ atI (putK xs x) x.r x.n = (restK xs).length ∧ atI (restK xs) x.r x.n < 0 ∧ xs.length ≤ 20 := by
  unfold putE at h
  have hr : rightK xs = true := by
    cases h1 : rightK xs
    · rw [if_pos h1] at h; cases h
    · rfl
  rw [if_neg (by rw [hr]; decide)] at h
  have hs : sizedK x = true := by
    cases h1 : sizedK x
    · rw [if_pos h1] at h; cases h
    · rfl
  rw [if_neg (by rw [hs]; decide)] at h
  have ha : atI xs x.r x.n < 0 := by
    by_cases h1 : 0 ≤ atI xs x.r x.n
    · rw [if_pos h1] at h; cases h
    · omega
  have ha := (atI_neg _ _ _).1 ha
  obtain ⟨h1, h2, h3⟩ := (rightK_iff _).1 hr
  have hsub : (restK xs).Sublist xs := by
    unfold restK; split
    · exact List.drop_sublist _ _
    · exact List.Sublist.refl _
  have hlen : (restK xs).length + 1 ≤ 20 := by
    unfold restK; split
    · rw [List.length_drop]; omega
    · omega
  have ha' : ∀ q ∈ restK xs, sameN q x.r x.n = false := fun q hq => ha q (hsub.mem hq)
  refine ⟨(rightK_iff _).2 ⟨by omega, fun q hq => h2 q (hsub.mem hq), h3.sublist hsub⟩, (rightK_iff _).2 ⟨?_, ?_, ?_⟩, ?_, (atI_neg _ _ _).2 ha', h1⟩
  · rw [putK_eq, List.length_append]; exact hlen
  · rw [putK_eq]
    intro q hq
    rcases List.mem_append.1 hq with hq | hq
    · exact h2 q (hsub.mem hq)
    · rw [List.mem_singleton.1 hq]; exact hs
  · rw [putK_eq, List.pairwise_append]
    refine ⟨h3.sublist hsub, List.pairwise_singleton _ _, fun a hA b hB => ?_⟩
    rw [List.mem_singleton.1 hB]
    exact ha' a hA
  · rw [putK_eq]
    refine atI_hit (p := x) (by simp) (by simpa using ha') ?_
    unfold sameN; simp
theorem once_more {xs : List KeptD} {x : KeptD} (h : putE xs x = 0) :
    takeE (putK xs x) x.r x.n = 0 ∧ takeS (putK xs x) x.r x.n = x.k ∧ takeL (putK xs x) x.r x.n = restK xs ∧ takeE (restK xs) x.r x.n = 5 ∧ putE (putK xs x) x = 7 ∧ rightK (restK xs) = true ∧ rightK (putK xs x) = true ∧ xs.length ≤ 20 := by
  obtain ⟨h1, h2, h3, h4, h5⟩ := once_facts h
  have hs : sizedK x = true := ((rightK_iff _).1 h2).2.1 x (by rw [putK_eq]; simp)
  have e1 : takeE (putK xs x) x.r x.n = 0 := by
    unfold takeE; rw [if_neg (by rw [h2]; decide), if_neg (by omega)]
  refine ⟨e1, ?_, ?_, ?_, ?_, h1, h2, h5⟩
  · unfold takeS; rw [if_pos e1, h3, putK_eq, Int.toNat_natCast]; simp
  · unfold takeL; rw [if_pos e1, h3, putK_eq, Int.toNat_natCast]; simp
  · unfold takeE; rw [if_neg (by rw [h1]; decide), if_pos h4]
  · unfold putE; rw [if_neg (by rw [h2]; decide), if_neg (by rw [hs]; decide), if_pos (by omega)]
end Go.Proofs.Ytnkfdpkjphbheaa

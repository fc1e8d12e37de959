import Derived.Test.YtfghjahmnjghgaaFrE
set_option linter.unusedVariables false
set_option linter.unusedSimpArgs false
/- LAYER 8: two frames. -/
namespace Go.Proofs.Ytfghjahmnjghgaa
open Go.RowKit Go.Proofs.YtfghjahmnjghgaaW.PrintWords Go.Proofs.YtfghjahmnjghgaaW.PrintLast Go.Proofs.YtfghjahmnjghgaaW.PrintMore Go.Proofs.Ytfghjahmnjghgaa.PFr
theorem str_beqF (a b : ByteArray) : (a.toList == b.toList) = decide (a = b) := by
  rw [Bool.eq_iff_iff, beq_iff_eq, decide_eq_true_iff]
  rw [ByteArray.toList_eq, ByteArray.toList_eq]
  exact ⟨fun h => ByteArray.ext (Array.ext' h), fun h => by rw [h]⟩
theorem Equal_l0 (xs ys : List ByteArray) (hl : xs.length = ys.length) (hn : xs.length ≤ 1000000) (k : Nat) : ∀ m i, i + m = xs.length → slices_Equal_string_string.l0 (k + m + 1) xs ys (xs.length : Int) (i : Int) = some (decide (xs.drop i = ys.drop i))
  | 0, i, h => by
    obtain rfl : i = xs.length := h
    rw [slices_Equal_string_string.l0, if_neg (by omega), List.drop_length, hl, List.drop_length]; rfl
  | m + 1, i, h => by
    have w3 : wrap64 ((i : Int) + 1) = ((i + 1 : Nat) : Int) := by unfold wrap64; omega
    obtain ⟨x, hx⟩ : ∃ y, xs[i]? = some y := ⟨_, List.getElem?_eq_getElem (by omega)⟩
    obtain ⟨y, hy⟩ : ∃ y, ys[i]? = some y := ⟨_, List.getElem?_eq_getElem (by omega)⟩
    have hr1 : rdOf ByteArray.empty xs (i : Int) = x := by
      unfold rdOf
      rw [Int.toNat_natCast, List.getD_eq_getElem?_getD, hx]; rfl
    have hr2 : rdOf ByteArray.empty ys (i : Int) = y := by
      unfold rdOf
      rw [Int.toNat_natCast, List.getD_eq_getElem?_getD, hy]; rfl
    have hd1 : xs.drop i = x :: xs.drop (i + 1) := by
      rw [List.drop_eq_getElem_cons (by omega)]
      rw [List.getElem?_eq_getElem (by omega)] at hx
      rw [Option.some.inj hx]
    have hd2 : ys.drop i = y :: ys.drop (i + 1) := by
      rw [List.drop_eq_getElem_cons (by omega)]
      rw [List.getElem?_eq_getElem (by omega)] at hy
      rw [Option.some.inj hy]
    rw [slices_Equal_string_string.l0, if_pos (by omega), if_pos (by omega), if_pos (by omega), if_pos (by omega), hr1, hr2, hd1, hd2]
    by_cases hxy : x = y
    · rw [if_pos (by rw [hxy]), w3, show k + (m + 1) = k + m + 1 from rfl, Equal_l0 xs ys hl hn k m (i + 1) (by omega), hxy]
      simp
    · rw [if_neg (fun h => hxy (by rw [ByteArray.toList_eq, ByteArray.toList_eq] at h; exact ByteArray.ext (Array.ext' h)))]
      simp [hxy]
theorem Equal_f (xs ys : List ByteArray) (hn : xs.length ≤ 1000000) (k : Nat) : slices_Equal_string_string.f (k + xs.length + 1) xs ys = some (decide (xs = ys)) := by
  unfold slices_Equal_string_string.f
  by_cases hl : xs.length = ys.length
  · rw [if_pos (by omega)]
    exact Equal_l0 xs ys hl hn k xs.length 0 (by omega)
  · rw [if_neg (by omega)]
    exact congrArg some (decide_eq_false (fun h => hl (by rw [h]))).symm
attribute [local irreducible] Calls
theorem Equal_any (xs ys : List ByteArray) (A : Option Addr) (c : Nat) (B : Option Addr) (d : Nat) (w : World) (hC : Kd.string.C w A xs.length xs) (hc : xs.length ≤ c) (hD : Kd.string.C w B ys.length ys) (hd : ys.length ≤ d) (hn : xs.length ≤ 1000000) :
    Calls Try.prog 31 #[.slice A xs.length c, .slice B ys.length d] w fun e w' => e = .returned (.bool (decide (xs = ys))) ∧ Below w.heap.size w w' := by
  refine (slices_Equal_string_string.calls (0 + xs.length + 1) A c xs B d ys _ w hC hc hD hd (Equal_f xs ys hn 0)).mono ?_
  rintro e w' ⟨rfl, h⟩
  exact ⟨rfl, by first | exact h | exact h.below⟩
end Go.Proofs.Ytfghjahmnjghgaa

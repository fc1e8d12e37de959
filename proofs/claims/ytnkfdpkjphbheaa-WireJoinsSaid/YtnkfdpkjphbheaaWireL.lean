import Derived.Test.YtnkfdpkjphbheaaWireP
namespace Go.Proofs.Ytnkfdpkjphbheaa
open Go.RowKit Go.Proofs.YtnkfdpkjphbheaaW.PrintWords

/-! The plain laws of layer 7. -/
theorem lex_lt {B r s p q : Nat} (hr : r < B) (hs : s < B) : r + B * p < s + B * q ↔ p < q ∨ p = q ∧ r < s := by
  constructor
  · intro h
    rcases Nat.lt_trichotomy p q with h1 | h1 | h1
    · exact .inl h1
    · subst h1; exact .inr ⟨rfl, by omega⟩
    · have : B * (q + 1) ≤ B * p := Nat.mul_le_mul_left _ h1
      rw [Nat.mul_add] at this; omega
  · rintro (h | ⟨rfl, h⟩)
    · have : B * (p + 1) ≤ B * q := Nat.mul_le_mul_left _ h
      rw [Nat.mul_add] at this; omega
    · omega
theorem u8_lt (a b : Nat) (ha : a < 256) (hb : b < 256) : (UInt8.ofNat a < UInt8.ofNat b) = (a < b) := by
  rw [UInt8.lt_iff_toNat_lt]; simp [Nat.mod_eq_of_lt ha, Nat.mod_eq_of_lt hb]
theorem u8_eq (a b : Nat) (ha : a < 256) (hb : b < 256) : (UInt8.ofNat a = UInt8.ofNat b) = (a = b) := by
  rw [← UInt8.toNat_inj]; simp [Nat.mod_eq_of_lt ha, Nat.mod_eq_of_lt hb]
theorem bytesLess_beL (m a b : Nat) : Op.bytesLess (beL m a) (beL m b) = decide (a % 256 ^ m < b % 256 ^ m) := by
  induction m with
  | zero => simp [beL, Op.bytesLess, Nat.mod_one]
  | succ m ih =>
    rw [beL_front, beL_front, Op.bytesLess, ih, Nat.mod_pow_succ, Nat.mod_pow_succ, Bool.eq_iff_iff]
    have hp : 0 < 256 ^ m := Nat.pow_pos (by omega)
    simp only [Bool.or_eq_true, Bool.and_eq_true, decide_eq_true_eq, beq_iff_eq, lex_lt (Nat.mod_lt a hp) (Nat.mod_lt b hp), u8_lt _ _ (Nat.mod_lt _ (by omega : 0 < 256)) (Nat.mod_lt _ (by omega : 0 < 256)), u8_eq _ _ (Nat.mod_lt _ (by omega : 0 < 256)) (Nat.mod_lt _ (by omega : 0 < 256))]
theorem lt_pow_numLen (n : Nat) (h : n < 18446744073709551616) : n < 256 ^ numLen n := by
  have h0 : n / 256 ^ numLen n = 0 := Nat.eq_zero_of_not_pos (mt (lt_numLen n (numLen n) h).2 (Nat.lt_irrefl _))
  rcases Nat.div_eq_zero_iff.1 h0 with h1 | h1
  · exact absurd h1 (Nat.ne_of_gt (Nat.pow_pos (by omega)))
  · exact h1
theorem lt_of_numLen (n m : Nat) (hn : n < 18446744073709551616) (hm : m < 18446744073709551616) (h : numLen n < numLen m) : n < m := by
  have h1 := lt_pow_numLen n hn
  have h2 := (lt_numLen m (numLen n) hm).1 h
  have h3 : 256 ^ numLen n ≤ m := by
    rcases Nat.lt_or_ge m (256 ^ numLen n) with h4 | h4
    · rw [Nat.div_eq_of_lt h4] at h2; omega
    · exact h4
  omega
theorem bytesLess_numL (n m : Nat) (hn : n < 18446744073709551616) (hm : m < 18446744073709551616) : Op.bytesLess (numL n) (numL m) = decide (n < m) := by
  unfold numL
  have hn8 := numLen_le n hn
  have hm8 := numLen_le m hm
  rw [Op.bytesLess, Bool.eq_iff_iff]
  simp only [Bool.or_eq_true, Bool.and_eq_true, decide_eq_true_eq, beq_iff_eq, u8_lt (numLen n) (numLen m) (by omega) (by omega), u8_eq (numLen n) (numLen m) (by omega) (by omega)]
  constructor
  · rintro (h | ⟨h, h1⟩)
    · exact lt_of_numLen n m hn hm h
    · rw [h, bytesLess_beL, decide_eq_true_eq, Nat.mod_eq_of_lt (by rw [← h]; exact lt_pow_numLen n hn), Nat.mod_eq_of_lt (lt_pow_numLen m hm)] at h1
      exact h1
  · intro h
    rcases Nat.lt_trichotomy (numLen n) (numLen m) with h1 | h1 | h1
    · exact .inl h1
    · refine .inr ⟨h1, ?_⟩
      rw [h1, bytesLess_beL, decide_eq_true_eq, Nat.mod_eq_of_lt (by rw [← h1]; exact lt_pow_numLen n hn), Nat.mod_eq_of_lt (lt_pow_numLen m hm)]
      exact h
    · have := lt_of_numLen m n hm hn h1; omega
theorem bytesLess_irrefl (l : List UInt8) : Op.bytesLess l l = false := by
  induction l with
  | nil => rfl
  | cons a l ih => rw [Op.bytesLess, ih]; simp
theorem numL_inj (n m : Nat) (hn : n < 18446744073709551616) (hm : m < 18446744073709551616) : numL n = numL m ↔ n = m := by
  refine ⟨fun h => ?_, fun h => by rw [h]⟩
  have h1 := bytesLess_numL n m hn hm
  have h2 := bytesLess_numL m n hm hn
  rw [h, bytesLess_irrefl] at h1
  rw [h, bytesLess_irrefl] at h2
  have h3 := of_decide_eq_false h1.symm
  have h4 := of_decide_eq_false h2.symm
  omega
theorem numS_toList (n : Nat) : (numS n).toList = numL n := ByteArray.toList_mk _
theorem rises1 (n m : Nat) (hn : n < 18446744073709551616) (hm : m < 18446744073709551616) : Op.bytesLess (numS n).toList (numS m).toList = decide ((n : Int) < m) := by
  rw [numS_toList, numS_toList, bytesLess_numL n m hn hm]; simp
theorem rises2 (n m : Nat) (hn : n < 18446744073709551616) (hm : m < 18446744073709551616) : ((numS n).toList == (numS m).toList) = ((n : Int) == m) := by
  rw [numS_toList, numS_toList, Bool.eq_iff_iff, beq_iff_eq, beq_iff_eq, numL_inj n m hn hm]; omega
end Go.Proofs.Ytnkfdpkjphbheaa

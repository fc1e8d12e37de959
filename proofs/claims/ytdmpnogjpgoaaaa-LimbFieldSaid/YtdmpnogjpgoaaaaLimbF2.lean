import Derived.Test.YtdmpnogjpgoaaaaLimbF1
import Derived.Test.YtdmpnogjpgoaaaaNT
set_option linter.unusedSimpArgs false
/-! Layer 1 by what is left modulo 2^255 - 19. -/
namespace Go.Proofs.Ytdmpnogjpgoaaaa
open Go.RowKit Go.Proofs.YtdmpnogjpgoaaaaW.PrintWords Go.Proofs.YtdmpnogjpgoaaaaW.PrintLast Go.Proofs.YtdmpnogjpgoaaaaW.PrintMore
/-- the text of what is left of a number -/
def T (x : Nat) : ByteArray := textV (x % P25)
/-- s is a text of 32 bytes, and x is left of it -/
structure IsT (s : ByteArray) (x : Nat) : Prop where
  size : s.size = 32
  val : leV s % P25 = x % P25
theorem P25_256 : P25 < 256 ^ 32 := by decide +kernel
theorem leV_T (x : Nat) : leV (T x) = x % P25 := by
  unfold T
  rw [leV_textV, Nat.mod_eq_of_lt (Nat.lt_trans (modP_P x) P25_256)]
theorem T_size (x : Nat) : (T x).size = 32 := textV_size _
theorem isT (x : Nat) : IsT (T x) x := ⟨T_size x, by rw [leV_T, Nat.mod_mod]⟩
theorem isT_of {s : ByteArray} (h : s.size = 32) : IsT s (leV s) := ⟨h, rfl⟩
theorem T_congr {x y : Nat} (h : x % P25 = y % P25) : T x = T y := by unfold T; rw [h]
theorem T_inj {x y : Nat} (h : T x = T y) : x % P25 = y % P25 := by rw [← leV_T, h, leV_T]
section
variable {s t : ByteArray} {x y : Nat} (w : World)
theorem AddT (hs : IsT s x) (ht : IsT t y) : Calls Try.prog 19 #[.string s, .string t] w fun e w' => e = .returned (.tuple #[.string (T (x + y)), .int .i64 0]) ∧ Below w.heap.size w w' := by
  have := Add_any s t w ⟨hs.size, ht.size⟩
  rw [Nat.add_mod, hs.val, ht.val, ← Nat.add_mod] at this
  exact this
theorem MulT (hs : IsT s x) (ht : IsT t y) : Calls Try.prog 21 #[.string s, .string t] w fun e w' => e = .returned (.tuple #[.string (T (x * y)), .int .i64 0]) ∧ Below w.heap.size w w' := by
  have := Mul_any s t w ⟨hs.size, ht.size⟩
  rw [Nat.mul_mod, hs.val, ht.val, ← Nat.mul_mod] at this
  exact this
theorem SubT (hs : IsT s x) (ht : IsT t y) : Calls Try.prog 20 #[.string s, .string t] w fun e w' => e = .returned (.tuple #[.string (T (x % P25 + P25 - y % P25)), .int .i64 0]) ∧ Below w.heap.size w w' := by
  have := Sub_any s t w ⟨hs.size, ht.size⟩
  rw [hs.val, ht.val] at this
  exact this
theorem NormT (hs : IsT s x) : Calls Try.prog 18 #[.string s] w fun e w' => e = .returned (.tuple #[.string (T x), .int .i64 0]) ∧ Below w.heap.size w w' := by
  have := Norm_any s w hs.size
  rw [hs.val] at this
  exact this
theorem InvT (hs : IsT s x) : Calls Try.prog 12 #[.string s] w fun e w' => e = .returned (.tuple #[.string (T ((x % P25) ^ (P25 - 2))), .int .i64 0]) ∧ Below w.heap.size w w' := by
  have := Inv_any s w hs.size
  rw [hs.val] at this
  exact this
end
theorem sub_back (x y : Nat) : T ((x + y) % P25 + P25 - y % P25) = T x := by
  refine T_congr ?_
  have h1 := modP_P x
  have h2 := modP_P y
  rw [Nat.add_mod x y]
  by_cases h : x % P25 + y % P25 < P25
  · rw [Nat.mod_eq_of_lt h, show x % P25 + y % P25 + P25 - y % P25 = x % P25 + P25 by omega, Nat.add_mod_right, Nat.mod_mod]
  · have e : (x % P25 + y % P25) % P25 = x % P25 + y % P25 - P25 := by rw [Nat.mod_eq_sub_mod (by omega), Nat.mod_eq_of_lt (by omega)]
    rw [e, show x % P25 + y % P25 - P25 + P25 - y % P25 = x % P25 by omega, Nat.mod_mod]
theorem prime_P25 : NT.Prime P25 := NT.prime25519
theorem inv_mul (x : Nat) (h : x % P25 ≠ 0) : x * (x % P25) ^ (P25 - 2) % P25 = 1 := by
  have hf := NT.fermat1 (a := x) prime_P25 (fun hd => h (Nat.mod_eq_zero_of_dvd hd))
  rw [Nat.mul_mod, Nat.pow_mod, Nat.mod_mod, ← Nat.pow_mod, ← Nat.mul_mod, ← Nat.pow_succ']
  have e : (P25 - 2).succ = P25 - 1 := by decide +kernel
  rw [e]
  exact hf
theorem T_zero : textV 0 = T 0 := by unfold T; rw [Nat.zero_mod]
theorem T_one : textV 1 = T 1 := by unfold T; rw [show 1 % P25 = 1 by decide +kernel]
end Go.Proofs.Ytdmpnogjpgoaaaa

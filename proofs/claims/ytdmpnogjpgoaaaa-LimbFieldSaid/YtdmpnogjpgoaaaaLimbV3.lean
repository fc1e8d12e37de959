import Derived.Test.YtdmpnogjpgoaaaaLimbW6
set_option linter.unusedSimpArgs false
namespace Go.Proofs.Ytdmpnogjpgoaaaa
open Go.RowKit Go.Proofs.YtdmpnogjpgoaaaaW.PrintWords Go.Proofs.YtdmpnogjpgoaaaaW.PrintLast Go.Proofs.YtdmpnogjpgoaaaaW.PrintMore
theorem and32 (a : Nat) (ha : a < 18446744073709551616) : Go.bits .and .u64 (a : Int) 4294967295 = ((a % 4294967296 : Nat) : Int) := by
  show IntKind.u64.wrap ((BitVec.ofInt 64 (a : Int) &&& BitVec.ofInt 64 ((4294967295 : Nat) : Int)).toNat : Int) = _
  rw [BitVec.ofInt_natCast, BitVec.ofInt_natCast, BitVec.toNat_and, BitVec.toNat_ofNat, BitVec.toNat_ofNat, Nat.mod_eq_of_lt (a := a) (by omega), Nat.mod_eq_of_lt (by decide)]
  rw [show (4294967295 : Nat) = 2 ^ 32 - 1 by decide, Nat.and_two_pow_sub_one_eq_mod, IntKind.wrap_u64]
  omega
theorem uw (n : Nat) (h : n < 18446744073709551616) : IntKind.u64.wrap (n : Int) = (n : Int) := by rw [IntKind.wrap_u64]; omega
theorem mul64 (a b : Nat) (ha : a < 18446744073709551616) (hb : b < 18446744073709551616) :
    PLimbTells.bits_Mul64.f a b = some (((a * b / 18446744073709551616 : Nat) : Int), ((a * b % 18446744073709551616 : Nat) : Int)) := by
  unfold PLimbTells.bits_Mul64.f
  have e1 : a = 4294967296 * (a / 4294967296) + a % 4294967296 := (Nat.div_add_mod a 4294967296).symm
  have e2 : b = 4294967296 * (b / 4294967296) + b % 4294967296 := (Nat.div_add_mod b 4294967296).symm
  have b1 : a / 4294967296 < 4294967296 := by omega
  have b2 : b / 4294967296 < 4294967296 := by omega
  have b3 : a % 4294967296 < 4294967296 := by omega
  have b4 : b % 4294967296 < 4294967296 := by omega
  rw [and32 a ha, and32 b hb]
  rw [show (a : Int) / 4294967296 = ((a / 4294967296 : Nat) : Int) by omega, show (b : Int) / 4294967296 = ((b / 4294967296 : Nat) : Int) by omega]
  have hab : a * b = 18446744073709551616 * (a / 4294967296 * (b / 4294967296)) + 4294967296 * (a / 4294967296 * (b % 4294967296)) + 4294967296 * (a % 4294967296 * (b / 4294967296)) + a % 4294967296 * (b % 4294967296) := by
    conv => lhs; rw [e1, e2]
    generalize a / 4294967296 = x
    generalize b / 4294967296 = y
    generalize a % 4294967296 = u
    generalize b % 4294967296 = v
    rw [Nat.add_mul, Nat.mul_add, Nat.mul_add]
    rw [show 4294967296 * x * (4294967296 * y) = 18446744073709551616 * (x * y) by rw [Nat.mul_mul_mul_comm], show 4294967296 * x * v = 4294967296 * (x * v) from Nat.mul_assoc _ _ _, show u * (4294967296 * y) = 4294967296 * (u * y) from Nat.mul_left_comm _ _ _]
    omega
  have hlo : IntKind.u64.wrap ((a : Int) * (b : Int)) = ((a * b % 18446744073709551616 : Nat) : Int) := by
    rw [← Int.natCast_mul, IntKind.wrap_u64]; omega
  rw [hlo, hab]
  have m1 := Nat.mul_le_mul (show a / 4294967296 ≤ 4294967295 by omega) (show b / 4294967296 ≤ 4294967295 by omega)
  have m2 := Nat.mul_le_mul (show a / 4294967296 ≤ 4294967295 by omega) (show b % 4294967296 ≤ 4294967295 by omega)
  have m3 := Nat.mul_le_mul (show a % 4294967296 ≤ 4294967295 by omega) (show b / 4294967296 ≤ 4294967295 by omega)
  have m4 := Nat.mul_le_mul (show a % 4294967296 ≤ 4294967295 by omega) (show b % 4294967296 ≤ 4294967295 by omega)
  rw [← Int.natCast_mul, ← Int.natCast_mul, ← Int.natCast_mul, ← Int.natCast_mul]
  generalize a / 4294967296 * (b / 4294967296) = p11 at *
  generalize a / 4294967296 * (b % 4294967296) = p10 at *
  generalize a % 4294967296 * (b / 4294967296) = p01 at *
  generalize a % 4294967296 * (b % 4294967296) = p00 at *
  clear e1 e2 b1 b2 b3 b4 hab hlo
  have w1 := uw p11 (by omega)
  have w2 := uw p10 (by omega)
  have w3 := uw p00 (by omega)
  have w4 := uw p01 (by omega)
  rw [w1, w2, w3, w4]
  rw [show (p00 : Int) / 4294967296 = ((p00 / 4294967296 : Nat) : Int) by omega, ← Int.natCast_add, uw (p10 + p00 / 4294967296) (by omega)]
  have hm := and32 (p10 + p00 / 4294967296) (by omega)
  rw [hm]
  rw [show ((p10 + p00 / 4294967296 : Nat) : Int) / 4294967296 = (((p10 + p00 / 4294967296) / 4294967296 : Nat) : Int) by omega, ← Int.natCast_add, uw (p11 + (p10 + p00 / 4294967296) / 4294967296) (by omega), ← Int.natCast_add, uw ((p10 + p00 / 4294967296) % 4294967296 + p01) (by omega)]
  rw [show (((p10 + p00 / 4294967296) % 4294967296 + p01 : Nat) : Int) / 4294967296 = ((((p10 + p00 / 4294967296) % 4294967296 + p01) / 4294967296 : Nat) : Int) by omega, ← Int.natCast_add, uw _ (by omega)]
  congr 2
  omega
/-- math/bits.Mul64 -/
theorem Mul64_any (a b : Nat) (ha : a < 18446744073709551616) (hb : b < 18446744073709551616) (w : World) :
    Calls Try.prog 95 #[.int .u64 a, .int .u64 b] w fun e w' => e = .returned (.tuple #[.int .u64 (a * b / 18446744073709551616 : Nat), .int .u64 (a * b % 18446744073709551616 : Nat)]) ∧ Drawn0 w w' :=
  PLimbTells.bits_Mul64.calls a b _ _ w (mul64 a b ha hb)
set_option maxHeartbeats 400000 in
theorem prime_any (w : World) : Calls Try.prog 64 #[] w fun e w' => e = .returned (.agg (aggN P25)) ∧ Below w.heap.size w w' := by
  have hu65 := Try.underlying67
  have hv : aggN P25 = #[.int .u64 18446744073709551597, .int .u64 18446744073709551615, .int .u64 18446744073709551615, .int .u64 9223372036854775807] := by
    unfold aggN
    rw [show wd P25 0 = 18446744073709551597 by decide +kernel, show wd P25 1 = 18446744073709551615 by decide +kernel, show wd P25 2 = 18446744073709551615 by decide +kernel, show wd P25 3 = 9223372036854775807 by decide +kernel]
    rfl
  rw [hv]
  clear hv
  go_enter Try.func64, Try.ntmps64
  go_wp2
  refine bodyPost_ret (v := .agg #[.int .u64 18446744073709551597, .int .u64 18446744073709551615, .int .u64 18446744073709551615, .int .u64 9223372036854775807]) (by simp [results, Try.results64, go_sem, *]) rfl ⟨rfl, ?_⟩
  exact below_alloc (Below.refl _ _) _
end Go.Proofs.Ytdmpnogjpgoaaaa

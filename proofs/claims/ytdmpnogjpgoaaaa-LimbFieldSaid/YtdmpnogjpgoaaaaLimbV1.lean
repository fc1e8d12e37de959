import Derived.Test.YtdmpnogjpgoaaaaLimbM4
namespace Go.Proofs.Ytdmpnogjpgoaaaa
open Go.RowKit Go.Proofs.YtdmpnogjpgoaaaaW.PrintWords Go.Proofs.YtdmpnogjpgoaaaaW.PrintLast Go.Proofs.YtdmpnogjpgoaaaaW.PrintMore
theorem wri {n : Int} (h : -9223372036854775808 ≤ n ∧ n ≤ 9223372036854775807) : wrap64 n = n := wr h
/-- word j of a number -/
def wd (v j : Nat) : Nat := v / 18446744073709551616 ^ j % 18446744073709551616
theorem wd_lt (v j : Nat) : wd v j < 18446744073709551616 := Nat.mod_lt _ (by decide)
def aggN (v : Nat) : Array Value := #[.int .u64 (wd v 0), .int .u64 (wd v 1), .int .u64 (wd v 2), .int .u64 (wd v 3)]
theorem valB_take {l : List Nat} {i n : Nat} (h : l[i]? = some n) : valB (l.take (i + 1)) = valB (l.take i) + 256 ^ i * n := by
  induction l generalizing i with
  | nil => simp at h
  | cons a l ih =>
    cases i with
    | zero => simp at h; subst h; simp [valB]
    | succ i =>
      have := ih (i := i) (by simpa using h)
      show a + 256 * valB (l.take (i + 1)) = a + 256 * valB (l.take i) + 256 ^ (i + 1) * n
      rw [this, Nat.pow_succ, Nat.mul_comm (256 ^ i) 256, Nat.mul_assoc]; omega
theorem valB_take_lt {l : List Nat} (hl : ∀ d ∈ l, d < 256) (i : Nat) (hi : i ≤ l.length) : valB (l.take i) < 256 ^ i := by
  have := valB_lt (l.take i) (fun d hd => hl d (List.mem_of_mem_take hd))
  rwa [List.length_take, Nat.min_eq_left hi] at this
theorem pow_split (q r : Nat) : 256 ^ (8 * q + r) = 18446744073709551616 ^ q * 256 ^ r := by
  rw [Nat.pow_add, Nat.pow_mul]
theorem pow_r (r : Nat) (h : r < 8) : 256 ^ (r + 1) ≤ 18446744073709551616 := by
  have := Nat.pow_le_pow_right (show 0 < 256 by decide) (show r + 1 ≤ 8 by omega)
  exact this
theorem wd_below {v q r b j : Nat} (hj : j < q) : wd (v + 256 ^ (8 * q + r) * b) j = wd v j := by
  unfold wd
  obtain ⟨d, rfl⟩ : ∃ d, q = j + 1 + d := ⟨q - j - 1, by omega⟩
  rw [pow_split, Nat.pow_add, Nat.pow_succ, show 18446744073709551616 ^ j * 18446744073709551616 * 18446744073709551616 ^ d * 256 ^ r * b = 18446744073709551616 ^ j * (18446744073709551616 * (18446744073709551616 ^ d * 256 ^ r * b)) by ac_rfl]
  rw [Nat.add_mul_div_left _ _ (Nat.pow_pos (by decide)), Nat.add_mul_mod_self_left]
theorem wd_at {v q r b : Nat} (hr : r < 8) (hb : b < 256) (hv : v < 256 ^ (8 * q + r)) : wd v q < 256 ^ r ∧ wd (v + 256 ^ (8 * q + r) * b) q = wd v q + 256 ^ r * b := by
  have hp := pow_r r hr
  rw [pow_split] at hv
  have h1 : v / 18446744073709551616 ^ q < 256 ^ r := Nat.div_lt_of_lt_mul hv
  have h2 : 256 ^ r * (b + 1) ≤ 256 ^ (r + 1) := by rw [Nat.pow_succ]; exact Nat.mul_le_mul_left _ (by omega)
  rw [Nat.mul_add, Nat.mul_one] at h2
  have h3 : 256 ^ r ≤ 18446744073709551616 := Nat.le_trans (Nat.pow_le_pow_right (by decide) (by omega)) hp
  unfold wd
  rw [pow_split, Nat.mul_assoc, Nat.add_mul_div_left _ _ (Nat.pow_pos (by decide))]
  rw [Nat.mod_eq_of_lt (a := v / 18446744073709551616 ^ q) (by omega), Nat.mod_eq_of_lt (by omega)]
  exact ⟨h1, rfl⟩
theorem wd_above {v q r b j : Nat} (hj : q < j) (hr : r < 8) (hb : b < 256) (hv : v < 256 ^ (8 * q + r)) : wd (v + 256 ^ (8 * q + r) * b) j = wd v j := by
  have hp := pow_r r hr
  have h0 : v + 256 ^ (8 * q + r) * b < 18446744073709551616 ^ j := by
    have h1 : v + 256 ^ (8 * q + r) * b < 256 ^ (8 * q + r) * (b + 1) := by rw [Nat.mul_add, Nat.mul_one]; omega
    have h2 : 256 ^ (8 * q + r) * (b + 1) ≤ 256 ^ (8 * q + r) * 256 := Nat.mul_le_mul_left _ (by omega)
    have h3 : 256 ^ (8 * q + r) * 256 = 18446744073709551616 ^ q * 256 ^ (r + 1) := by rw [pow_split, Nat.mul_assoc, ← Nat.pow_succ]
    have h4 : 18446744073709551616 ^ q * 256 ^ (r + 1) ≤ 18446744073709551616 ^ (q + 1) := by rw [Nat.pow_succ 18446744073709551616]; exact Nat.mul_le_mul_left _ hp
    have h5 : 18446744073709551616 ^ (q + 1) ≤ 18446744073709551616 ^ j := Nat.pow_le_pow_right (by decide) hj
    omega
  unfold wd
  rw [Nat.div_eq_of_lt h0, Nat.div_eq_of_lt (Nat.lt_of_le_of_lt (Nat.le_add_right _ _) h0)]
theorem or_add {x b r : Nat} (hx : x < 256 ^ r) (hr : r < 8) (hb : b < 256) : bits .or .u64 (x : Int) (IntKind.u64.wrap (IntKind.u64.wrap (b : Int) * 2 ^ (8 * (r : Int)).toNat)) = ((x + 256 ^ r * b : Nat) : Int) := by
  have hp := pow_r r hr
  have h2 : 256 ^ r * (b + 1) ≤ 256 ^ (r + 1) := by rw [Nat.pow_succ]; exact Nat.mul_le_mul_left _ (by omega)
  rw [Nat.mul_add, Nat.mul_one] at h2
  have e8 : (256 : Nat) ^ r = 2 ^ (8 * r) := by rw [Nat.pow_mul]
  have w1 : IntKind.u64.wrap (b : Int) = (b : Int) := by rw [IntKind.wrap_u64]; omega
  have w2 : IntKind.u64.wrap ((b : Int) * 2 ^ (8 * (r : Int)).toNat) = ((256 ^ r * b : Nat) : Int) := by
    rw [show (8 * (r : Int)).toNat = 8 * r by omega, show (b : Int) * 2 ^ (8 * r) = ((256 ^ r * b : Nat) : Int) by rw [e8, Int.natCast_mul, Int.natCast_pow, Int.mul_comm]; rfl, IntKind.wrap_u64]
    omega
  rw [w1, w2]
  have hor : 256 ^ r * b + x = 256 ^ r * b ||| x := by rw [e8] at hx ⊢; exact Nat.two_pow_add_eq_or_of_lt hx b
  show IntKind.u64.wrap ((BitVec.ofInt 64 (x : Int) ||| BitVec.ofInt 64 ((256 ^ r * b : Nat) : Int)).toNat : Int) = _
  rw [BitVec.ofInt_natCast, BitVec.ofInt_natCast, BitVec.toNat_or, BitVec.toNat_ofNat, BitVec.toNat_ofNat, Nat.mod_eq_of_lt (a := x) (by omega), Nat.mod_eq_of_lt (by omega), Nat.or_comm, ← hor, IntKind.wrap_u64]
  omega
end Go.Proofs.Ytdmpnogjpgoaaaa

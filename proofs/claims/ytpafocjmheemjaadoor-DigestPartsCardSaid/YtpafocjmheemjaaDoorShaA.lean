import Derived.Test.YtpafocjmheemjaaDoorProg
import Derived.Test.YtpafocjmheemjaaDoorSeq
import Derived.Test.YtpafocjmheemjaaDoorKit2
set_option linter.unusedSimpArgs false
namespace Go.Proofs.YtpafocjmheemjaaDoor
open Go.RowKit Go.Proofs.YtpafocjmheemjaaDoorW.PrintWords
abbrev W32 := BitVec 32
/-- a word as a number, closed to the walk -/
def un (x : W32) : Int := (x.toNat : Int)
abbrev u32 (x : W32) : Value := .int .u32 (un x)
def ror (x : W32) (n : Nat) : W32 := x >>> n ||| x <<< (32 - n)
theorem u32_bits (x : W32) : BitVec.ofInt 32 (un x) = x := by
  unfold un; apply BitVec.eq_of_toInt_eq
  simp
theorem u32_wrap (x : W32) : IntKind.u32.wrap (un x) = un x := by
  have := x.isLt
  unfold un; show ((x.toNat : Int) % 4294967296) = _
  omega
theorem un_lt (x : W32) : 0 ≤ un x ∧ un x < 4294967296 := by have := x.isLt; unfold un; omega
theorem un_or (a b : W32) : bits .or .u32 (un a) (un b) = un (a ||| b) := by
  have h := u32_wrap (a ||| b)
  unfold bits
  rw [show BitVec.ofInt IntKind.u32.bits (un a) = a from u32_bits a, show BitVec.ofInt IntKind.u32.bits (un b) = b from u32_bits b]
  exact h
theorem un_xor (a b : W32) : bits .xor .u32 (un a) (un b) = un (a ^^^ b) := by
  have h := u32_wrap (a ^^^ b)
  unfold bits
  rw [show BitVec.ofInt IntKind.u32.bits (un a) = a from u32_bits a, show BitVec.ofInt IntKind.u32.bits (un b) = b from u32_bits b]
  exact h
theorem un_and (a b : W32) : bits .and .u32 (un a) (un b) = un (a &&& b) := by
  have h := u32_wrap (a &&& b)
  unfold bits
  rw [show BitVec.ofInt IntKind.u32.bits (un a) = a from u32_bits a, show BitVec.ofInt IntKind.u32.bits (un b) = b from u32_bits b]
  exact h
theorem un_shl (x : W32) (m : Nat) : un x * 2 ^ m % 4294967296 = un (x <<< m) := by
  unfold un
  rw [BitVec.toNat_shiftLeft, Nat.shiftLeft_eq]
  simp only [Int.natCast_emod, Int.natCast_mul, Int.natCast_pow]
  rfl
theorem un_shr (x : W32) (m : Nat) : un x / 2 ^ m = un (x >>> m) := by
  unfold un
  rw [BitVec.toNat_ushiftRight, Nat.shiftRight_eq_div_pow]
  simp only [Int.natCast_ediv, Int.natCast_pow]
  rfl
theorem un_add (a b : W32) : (un a + un b) % 4294967296 = un (a + b) := by
  unfold un
  rw [BitVec.toNat_add]
  simp only [Int.natCast_emod, Int.natCast_add]
  rfl
theorem un_addw (a b : W32) : IntKind.u32.wrap (un a + un b) = un (a + b) := un_add a b
theorem un_shl8 (x : W32) : un x * (256 : Int) % (4294967296 : Int) = un (x <<< 8) := un_shl x 8
theorem un_shr3 (x : W32) : un x / (8 : Int) = un (x >>> 3) := un_shr x 3
theorem un_shr10 (x : W32) : un x / (1024 : Int) = un (x >>> 10) := un_shr x 10
theorem rot_cnt (n : Nat) (h0 : 0 < n) (h1 : n < 32) : bits .and .u64 (IntKind.u64.wrap (-(n : Int))) 31 = ((32 - n : Nat) : Int) := by
  have : ∀ n : Fin 32, 0 < n.val → bits .and .u64 (IntKind.u64.wrap (-(n.val : Int))) 31 = ((32 - n.val : Nat) : Int) := by decide +kernel
  exact this ⟨n, h1⟩ h0
attribute [local irreducible] Calls
set_option maxHeartbeats 400000 in
theorem rot_any (x : W32) (n : Nat) (h0 : 0 < n) (h1 : n < 32) (w : World) : Calls Tryd.prog 106 #[u32 x, .int .i64 (-(n : Int))] w fun e w' => e = .returned (u32 (ror x n)) ∧ Below w.heap.size w w' := by
  have hb := rot_cnt n h0 h1
  obtain ⟨m, hm⟩ : ∃ m, m = 32 - n := ⟨_, rfl⟩
  rw [← hm] at hb
  have hn : n = 32 - m := by omega
  subst hn
  have hm1 : 0 < m := by omega
  have hm2 : m < 32 := by omega
  clear hm
  have h4 : ¬ ((m : Int) < 0) := by omega
  have h5 : (32 : Int) - (m : Int) = ((32 - m : Nat) : Int) := by omega
  have h6 : ¬ (((32 - m : Nat) : Int) < 0) := by omega
  go_enter Tryd.func106, Tryd.ntmps106
  go_wp2
  go_ret
  refine ⟨?_, Below.refl _ _⟩
  rw [un_shl, un_shr, un_or, ror, show 32 - (32 - m) = m by omega, BitVec.or_comm]; rfl
attribute [local go_sem] un_or un_xor un_and un_add un_shl8 un_shr3 un_shr10
set_option maxHeartbeats 400000 in
theorem turn_any (x : W32) (a b c : Nat) (ha : 0 < a ∧ a < 32) (hb : 0 < b ∧ b < 32) (hc : 0 < c ∧ c < 32) (w : World) :
    Calls Tryd.prog 97 #[u32 x, .int .i64 (a : Int), .int .i64 (b : Int), .int .i64 (c : Int)] w fun e w' => e = .returned (u32 (ror x a ^^^ ror x b ^^^ ror x c)) ∧ Below w.heap.size w w' := by
  obtain ⟨ha0, ha1⟩ := ha
  obtain ⟨hb0, hb1⟩ := hb
  obtain ⟨hc0, hc1⟩ := hc
  go_enter Tryd.func97, Tryd.ntmps97
  go_wp2_with fail
  refine (rot_any x a ha0 ha1 _).mono ?_
  rintro e w1 ⟨rfl, h1⟩
  go_wp2_with fail
  refine (rot_any x b hb0 hb1 _).mono ?_
  rintro e w2 ⟨rfl, h2⟩
  go_wp2_with fail
  refine (rot_any x c hc0 hc1 _).mono ?_
  rintro e w3 ⟨rfl, h3⟩
  go_wp2
  go_ret
  exact ⟨rfl, below_step (below_step h1 h2) h3⟩
end Go.Proofs.YtpafocjmheemjaaDoor

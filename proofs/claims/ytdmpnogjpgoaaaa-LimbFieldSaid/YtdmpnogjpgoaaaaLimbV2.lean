import Derived.Test.YtdmpnogjpgoaaaaLimbW3
import Derived.Laws.Externs
namespace Go.Proofs.Ytdmpnogjpgoaaaa
open Go.RowKit Go.Proofs.YtdmpnogjpgoaaaaW.PrintWords Go.Proofs.YtdmpnogjpgoaaaaW.PrintLast Go.Proofs.YtdmpnogjpgoaaaaW.PrintMore
def adS (x y c : Nat) : Nat := (x + y + c) % 18446744073709551616
def adC (x y c : Nat) : Nat := (x + y + c) / 18446744073709551616
def sbS (x y b : Nat) : Nat := (x + 18446744073709551616 - y - b) % 18446744073709551616
def sbB (x y b : Nat) : Nat := if x < y + b then 1 else 0
def sub64E : Array Value → Sem Value := fun args => do
  let (x, y, b) ← Extern.MathBitsCarry.three "Sub64" args
  pure (Extern.MathBitsCarry.pair ((x + Extern.MathBitsCarry.m64 - y - b) % Extern.MathBitsCarry.m64) (if x < y + b then 1 else 0))
def add64E : Array Value → Sem Value := fun args => do
  let (x, y, c) ← Extern.MathBitsCarry.three "Add64" args
  pure (Extern.MathBitsCarry.pair ((x + y + c) % Extern.MathBitsCarry.m64) ((x + y + c) / Extern.MathBitsCarry.m64))
theorem add75 (x y c : Nat) (hc : c ≤ 1) (w : World) : (callFunc 96 #[.int .u64 x, .int .u64 y, .int .u64 c]).run Try.prog w = .ok (.value (.tuple #[.int .u64 (adS x y c : Nat), .int .u64 (adC x y c : Nat)])) w := by
  rw [run_callFunc_extern Try.func96 (by kernel_rfl) (by kernel_rfl) (by kernel_rfl) (e := add64E) (by kernel_rfl)]
  have : c = 0 ∨ c = 1 := by omega
  rcases this with rfl | rfl <;> rfl
theorem add75_0 (x y : Nat) (w : World) : (callFunc 96 #[.int .u64 x, .int .u64 y, .int .u64 0]).run Try.prog w = .ok (.value (.tuple #[.int .u64 (adS x y 0 : Nat), .int .u64 (adC x y 0 : Nat)])) w := add75 x y 0 (by omega) w
theorem sub76 (x y c : Nat) (hc : c ≤ 1) (w : World) : (callFunc 97 #[.int .u64 x, .int .u64 y, .int .u64 c]).run Try.prog w = .ok (.value (.tuple #[.int .u64 (sbS x y c : Nat), .int .u64 (sbB x y c : Nat)])) w := by
  rw [run_callFunc_extern Try.func97 (by kernel_rfl) (by kernel_rfl) (by kernel_rfl) (e := sub64E) (by kernel_rfl)]
  have : c = 0 ∨ c = 1 := by omega
  rcases this with rfl | rfl <;> rfl
theorem sub76_0 (x y : Nat) (w : World) : (callFunc 97 #[.int .u64 x, .int .u64 y, .int .u64 0]).run Try.prog w = .ok (.value (.tuple #[.int .u64 (sbS x y 0 : Nat), .int .u64 (sbB x y 0 : Nat)])) w := sub76 x y 0 (by omega) w
/-! ### the carry and the borrow ahead of word k -/
def MM : Nat := 18446744073709551616
def cy (n m k : Nat) : Nat := (n % MM ^ k + m % MM ^ k) / MM ^ k
def bw (n m k : Nat) : Nat := if n % MM ^ k < m % MM ^ k then 1 else 0
theorem wd_MM (v j : Nat) : wd v j = v / MM ^ j % MM := rfl
theorem MMpos (k : Nat) : 0 < MM ^ k := Nat.pow_pos (by decide)
theorem mod_succ (v k : Nat) : v % MM ^ (k + 1) = v % MM ^ k + MM ^ k * wd v k := by
  rw [Nat.pow_succ, Nat.mod_mul, wd_MM]
theorem cy_0 (n m : Nat) : cy n m 0 = 0 := by simp [cy, Nat.mod_one]
theorem cy_le (n m k : Nat) : cy n m k ≤ 1 := by
  have h1 := Nat.mod_lt n (MMpos k)
  have h2 := Nat.mod_lt m (MMpos k)
  unfold cy
  have : (n % MM ^ k + m % MM ^ k) / MM ^ k < 2 := Nat.div_lt_of_lt_mul (by omega)
  omega
theorem cy_step (n m k : Nat) : adC (wd n k) (wd m k) (cy n m k) = cy n m (k + 1) := by
  unfold adC cy
  show _ / MM = _
  rw [mod_succ n k, mod_succ m k, Nat.pow_succ]
  have hp := MMpos k
  rw [show n % MM ^ k + MM ^ k * wd n k + (m % MM ^ k + MM ^ k * wd m k) = (n % MM ^ k + m % MM ^ k) + MM ^ k * (wd n k + wd m k) by rw [Nat.mul_add]; omega]
  rw [← Nat.div_div_eq_div_mul, Nat.add_mul_div_left _ _ hp]
  congr 1; omega
theorem ad_wd (n m k : Nat) : adS (wd n k) (wd m k) (cy n m k) = wd (n + m) k := by
  unfold adS cy
  have hp := MMpos k
  show _ % MM = _
  rw [wd_MM, wd_MM, wd_MM]
  have e : (n + m) / MM ^ k = (n % MM ^ k + m % MM ^ k) / MM ^ k + (n / MM ^ k + m / MM ^ k) := by
    have d1 := Nat.div_add_mod n (MM ^ k)
    have d2 := Nat.div_add_mod m (MM ^ k)
    rw [← Nat.add_mul_div_left _ _ hp, Nat.mul_add]
    congr 1; omega
  rw [e, Nat.add_mod, Nat.add_mod (n / MM ^ k % MM), Nat.mod_mod, Nat.mod_mod, ← Nat.add_mod (n / MM ^ k), ← Nat.add_mod, Nat.add_comm]
theorem cy_4 (n m : Nat) (hn : n < MM ^ 4) (hm : m < MM ^ 4) : cy n m 4 = (n + m) / MM ^ 4 := by
  unfold cy; rw [Nat.mod_eq_of_lt hn, Nat.mod_eq_of_lt hm]
theorem bw_0 (n m : Nat) : bw n m 0 = 0 := by simp [bw, Nat.mod_one]
theorem bw_le (n m k : Nat) : bw n m k ≤ 1 := by unfold bw; split <;> omega
theorem bw_step (n m k : Nat) : sbB (wd n k) (wd m k) (bw n m k) = bw n m (k + 1) := by
  have h1 := Nat.mod_lt n (MMpos k)
  have h2 := Nat.mod_lt m (MMpos k)
  unfold sbB bw
  rw [mod_succ n k, mod_succ m k]
  generalize n % MM ^ k = a at *
  generalize m % MM ^ k = b at *
  generalize wd n k = x
  generalize wd m k = y
  generalize MM ^ k = K at *
  have key : (x < y + if a < b then 1 else 0) ↔ a + K * x < b + K * y := by
    by_cases hxy : x < y
    · have := Nat.mul_le_mul_left K (show x + 1 ≤ y from hxy)
      rw [Nat.mul_add, Nat.mul_one] at this
      constructor
      · intro _; omega
      · intro _; omega
    · by_cases e : x = y
      · subst e
        split <;> constructor <;> intro _ <;> omega
      · have := Nat.mul_le_mul_left K (show y + 1 ≤ x by omega)
        rw [Nat.mul_add, Nat.mul_one] at this
        constructor
        · intro h; split at h <;> omega
        · intro h; omega
  by_cases h : a + K * x < b + K * y
  · rw [if_pos (key.2 h), if_pos h]
  · rw [if_neg (fun hh => h (key.1 hh)), if_neg h]
theorem wd_lt' (v j : Nat) : wd v j < MM := wd_lt v j
theorem wd_add4 (n k : Nat) (hk : k < 4) : wd (n + MM ^ 4) k = wd n k := by
  rw [wd_MM, wd_MM]
  obtain ⟨t, ht⟩ : ∃ t, 4 = k + 1 + t := ⟨3 - k, by omega⟩
  rw [ht, Nat.pow_add, Nat.pow_succ, Nat.mul_assoc, Nat.add_mul_div_left _ _ (MMpos k), Nat.add_mul_mod_self_left]
theorem mod_add4 (n k : Nat) (hk : k ≤ 4) : (n + MM ^ 4) % MM ^ k = n % MM ^ k := by
  obtain ⟨t, ht⟩ : ∃ t, 4 = k + t := ⟨4 - k, by omega⟩
  rw [ht, Nat.pow_add, Nat.add_mul_mod_self_left]
theorem sb_wd (n m k : Nat) (hm : m < MM ^ 4) (hk : k < 4) : sbS (wd n k) (wd m k) (bw n m k) = wd (n + MM ^ 4 - m) k := by
  have hs : n + MM ^ 4 - m + m = n + MM ^ 4 := by omega
  generalize n + MM ^ 4 - m = d at hs
  have h1 := ad_wd d m k
  rw [hs, wd_add4 n k hk] at h1
  have h2 : cy d m k = bw n m k := by
    have e : (d + m) % MM ^ k = n % MM ^ k := by rw [hs, mod_add4 n k (by omega)]
    rw [Nat.add_mod] at e
    have p1 := Nat.mod_lt d (MMpos k)
    have p2 := Nat.mod_lt m (MMpos k)
    have p3 := MMpos k
    unfold cy bw
    generalize d % MM ^ k = a at *
    generalize m % MM ^ k = b at *
    generalize n % MM ^ k = c at *
    generalize MM ^ k = K at *
    by_cases h : a + b < K
    · rw [Nat.div_eq_of_lt h, if_neg]
      rw [Nat.mod_eq_of_lt h] at e; omega
    · have : a + b = K + (a + b - K) := by omega
      rw [show (a + b) / K = 1 from by rw [this, Nat.add_div_left _ p3, Nat.div_eq_of_lt (by omega)], if_pos]
      rw [this, Nat.add_mod_left, Nat.mod_eq_of_lt (by omega)] at e; omega
  rw [h2] at h1
  have b1 := bw_le n m k
  have b2 := wd_lt d k
  have b3 := wd_lt m k
  unfold adS at h1
  unfold sbS
  generalize wd d k = x at *
  generalize wd m k = y at *
  omega
theorem bw_4 (n m : Nat) (hn : n < MM ^ 4) (hm : m < MM ^ 4) : bw n m 4 = if n < m then 1 else 0 := by
  unfold bw; rw [Nat.mod_eq_of_lt hn, Nat.mod_eq_of_lt hm]
end Go.Proofs.Ytdmpnogjpgoaaaa

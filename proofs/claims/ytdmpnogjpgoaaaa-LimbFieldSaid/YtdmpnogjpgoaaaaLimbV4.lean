import Derived.Test.YtdmpnogjpgoaaaaLimbV3
/-! Words as a function of their place: values, a word put anew. -/
namespace Go.Proofs.Ytdmpnogjpgoaaaa
open Go.RowKit Go.Proofs.YtdmpnogjpgoaaaaW.PrintWords
def wA (k : IntKind) (n : Nat) (f : Nat → Nat) : Array Value := ((List.range n).map (fun i => Value.int k (f i : Nat))).toArray
def upd (f : Nat → Nat) (k s : Nat) : Nat → Nat := fun i => if i = k then s else f i
theorem upd_same (f : Nat → Nat) (k s : Nat) : upd f k s k = s := by simp [upd]
theorem upd_ne (f : Nat → Nat) {k s i : Nat} (h : i ≠ k) : upd f k s i = f i := by simp [upd, h]
theorem wA_get (K : IntKind) (n : Nat) (f : Nat → Nat) (i : Nat) (h : i < n) : (wA K n f)[i]? = some (.int K (f i : Nat)) := by
  unfold wA
  rw [List.getElem?_toArray, List.getElem?_map, List.getElem?_range h]; rfl
theorem wA_set (K : IntKind) (n : Nat) (f : Nat → Nat) (i s : Nat) : (wA K n f).setIfInBounds i (.int K (s : Nat)) = wA K n (upd f i s) := by
  unfold wA
  rw [List.setIfInBounds_toArray]
  congr 1
  refine List.ext_getElem? (fun j => ?_)
  rw [List.getElem?_set]
  by_cases hj : j < n
  · rw [List.getElem?_map, List.getElem?_map, List.getElem?_range hj]
    by_cases hij : i = j
    · subst hij; simp [upd, hj]
    · rw [if_neg hij]; simp [upd, Ne.symm hij]
  · rw [List.getElem?_eq_none (by simp; omega), List.getElem?_eq_none (by simp; omega)]
    split <;> simp_all
theorem wA_size (K : IntKind) (n : Nat) (f : Nat → Nat) : (wA K n f).size = n := by simp [wA]
theorem aggN_wA (v : Nat) : aggN v = wA .u64 4 (wd v) := rfl
theorem wA_congr (K : IntKind) (n : Nat) {f g : Nat → Nat} (h : ∀ i, i < n → f i = g i) : wA K n f = wA K n g := by
  unfold wA
  congr 1
  exact List.map_congr_left (fun i hi => by rw [h i (List.mem_range.1 hi)])
/-- the number of n words -/
def vW (f : Nat → Nat) : Nat → Nat
  | 0 => 0
  | n + 1 => vW f n + MM ^ n * f n
theorem vW_congr {f g : Nat → Nat} : ∀ n : Nat, (∀ i, i < n → f i = g i) → vW f n = vW g n
  | 0, _ => rfl
  | n + 1, h => by show vW f n + _ = vW g n + _; rw [vW_congr n (fun i hi => h i (by omega)), h n (by omega)]
theorem vW_upd (f : Nat → Nat) (k s : Nat) : ∀ n : Nat, k < n → vW (upd f k s) n + MM ^ k * f k = vW f n + MM ^ k * s
  | 0, h => by omega
  | n + 1, h => by
    show vW (upd f k s) n + MM ^ n * upd f k s n + _ = vW f n + MM ^ n * f n + _
    by_cases hk : k = n
    · subst hk
      rw [upd_same, vW_congr (f := upd f k s) (g := f) k (fun i hi => upd_ne f (by omega))]; omega
    · have := vW_upd f k s n (by omega)
      rw [upd_ne f (Ne.symm hk)]; omega
theorem vW_wd (v : Nat) : ∀ n : Nat, vW (wd v) n = v % MM ^ n
  | 0 => by simp [vW, Nat.mod_one]
  | n + 1 => by show vW (wd v) n + _ = _; rw [vW_wd v n, mod_succ]
theorem vW_lt {f : Nat → Nat} (hf : ∀ i, f i < MM) : ∀ n : Nat, vW f n < MM ^ n
  | 0 => by simp [vW]
  | n + 1 => by
    have h1 := vW_lt hf n
    have h2 := hf n
    show vW f n + MM ^ n * f n < MM ^ (n + 1)
    rw [Nat.pow_succ]
    have : MM ^ n * (f n + 1) ≤ MM ^ n * MM := Nat.mul_le_mul_left _ h2
    rw [Nat.mul_add, Nat.mul_one] at this
    omega
theorem wd_vW {f : Nat → Nat} (hf : ∀ i, f i < MM) (n : Nat) : ∀ i, i < n → wd (vW f n) i = f i := by
  induction n with
  | zero => intro i h; omega
  | succ n ih =>
    intro i hi
    have hl := vW_lt hf n
    show wd (vW f n + MM ^ n * f n) i = f i
    rw [wd_MM]
    by_cases h : i = n
    · subst h
      rw [Nat.add_mul_div_left _ _ (MMpos _), Nat.div_eq_of_lt hl, Nat.zero_add, Nat.mod_eq_of_lt (hf _)]
    · have := ih i (by omega)
      rw [wd_MM] at this
      obtain ⟨t, ht⟩ : ∃ t, n = i + (t + 1) := ⟨n - i - 1, by omega⟩
      have e : MM ^ n * f n = MM ^ i * (MM * (MM ^ t * f n)) := by rw [ht, Nat.pow_add, Nat.pow_succ]; simp only [Nat.mul_assoc, Nat.mul_comm, Nat.mul_left_comm]
      rw [e, Nat.add_mul_div_left _ _ (MMpos _), Nat.add_mul_mod_self_left]; exact this
theorem vW_zero {f : Nat → Nat} (k : Nat) : ∀ n : Nat, k ≤ n → (∀ i, k ≤ i → i < n → f i = 0) → vW f n = vW f k
  | 0, h, _ => by obtain rfl : k = 0 := by omega
                  rfl
  | n + 1, h, hz => by
    by_cases hk : k = n + 1
    · rw [hk]
    · show vW f n + MM ^ n * f n = _
      rw [vW_zero k n (by omega) (fun i h1 h2 => hz i h1 (by omega)), hz n (by omega) (by omega)]; omega
theorem vW_split (f : Nat → Nat) (k : Nat) : ∀ n : Nat, vW f (k + n) = vW f k + MM ^ k * vW (fun i => f (k + i)) n
  | 0 => by simp [vW]
  | n + 1 => by
    show vW f (k + n) + MM ^ (k + n) * f (k + n) = vW f k + MM ^ k * (vW _ n + MM ^ n * f (k + n))
    rw [vW_split f k n, Nat.pow_add, Nat.mul_add]; simp only [Nat.mul_assoc]; omega
/-! ### one step of the product of two words, with what lies there and what is carried -/
theorem mac (p f c : Nat) (hp : p ≤ 340282366920938463426481119284349108225) (hf : f < MM) (hc : c < MM) :
    adS (adS (p % MM) f 0) c 0 + MM * (p / MM + adC (p % MM) f 0 + adC (adS (p % MM) f 0) c 0) = p + f + c ∧
    p / MM + adC (p % MM) f 0 < MM ∧ p / MM + adC (p % MM) f 0 + adC (adS (p % MM) f 0) c 0 < MM ∧ adS (adS (p % MM) f 0) c 0 < MM := by
  unfold adS adC
  unfold MM at *
  omega
theorem mul_bd {x y : Nat} (hx : x < MM) (hy : y < MM) : x * y ≤ 340282366920938463426481119284349108225 := by
  have := Nat.mul_le_mul (show x ≤ 18446744073709551615 by unfold MM at hx; omega) (show y ≤ 18446744073709551615 by unfold MM at hy; omega)
  omega
/-- the value behind a step -/
theorem step_val {V V' X fk s c c' p R : Nat} (h1 : V' + X * fk = V + X * s) (h2 : s + MM * c' = p + fk + c) (h3 : V + X * c = R) : V' + X * MM * c' = R + X * p := by
  have h4 : X * s + X * (MM * c') = X * p + X * fk + X * c := by rw [← Nat.mul_add, h2, Nat.mul_add, Nat.mul_add]
  rw [Nat.mul_assoc]; omega
end Go.Proofs.Ytdmpnogjpgoaaaa

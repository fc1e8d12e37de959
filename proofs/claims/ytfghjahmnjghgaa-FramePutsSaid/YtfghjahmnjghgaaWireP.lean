import Derived.Lib.BitFns
import Derived.Test.YtfghjahmnjghgaaKit
set_option linter.unusedSimpArgs false
set_option linter.unusedVariables false
namespace Go.Proofs.Ytfghjahmnjghgaa
open Go.RowKit Go.Proofs.YtfghjahmnjghgaaW.PrintWords

/-! Layer 7 (wire): numbers' and parts' bytes, as lists. -/
def beL : Nat → Nat → List UInt8
  | 0, _ => []
  | m + 1, n => beL m (n / 256) ++ [UInt8.ofNat (n % 256)]
def numLen (n : Nat) : Nat := (Lib.bitLen n + 7) / 8

theorem beL_front (m n : Nat) : beL (m + 1) n = UInt8.ofNat (n / 256 ^ m % 256) :: beL m n := by
  induction m generalizing n with
  | zero => simp [beL]
  | succ m ih => rw [beL, ih, beL, Nat.div_div_eq_div_mul, List.cons_append, Nat.pow_succ, Nat.mul_comm 256]
theorem beL_length (m n : Nat) : (beL m n).length = m := by
  induction m generalizing n with
  | zero => rfl
  | succ m ih => simp [beL, ih]
theorem lt_numLen (n k : Nat) (h : n < 18446744073709551616) : k < numLen n ↔ 0 < n / 256 ^ k := by
  have e : 256 ^ k = 2 ^ (8 * k) := by rw [Nat.pow_mul]
  rw [e]
  unfold numLen
  constructor
  · intro hk
    rcases Nat.eq_zero_or_pos (n / 2 ^ (8 * k)) with h0 | h0
    · have h1 : n < 2 ^ (8 * k) := by (rcases Nat.div_eq_zero_iff.1 h0 with h2 | h2) <;> first | exact h2 | exact absurd h2 (Nat.ne_of_gt (Nat.two_pow_pos _))
      rcases Nat.lt_or_ge 64 (8 * k) with h3 | h3
      · have := Lib.bitLen_le n 64 (by omega) h; omega
      · have := Lib.bitLen_le n (8 * k) h3 h1; omega
    · exact h0
  · intro h0
    have h1 : 2 ^ (8 * k) ≤ n := by
      rcases Nat.lt_or_ge n (2 ^ (8 * k)) with h2 | h2
      · rw [Nat.div_eq_of_lt h2] at h0; omega
      · exact h2
    have h2 := Lib.bitLen_shift (8 * k) n h1 h
    have h3 := Lib.bitLen_half (n / 2 ^ (8 * k)) (by omega) (Nat.lt_of_le_of_lt (Nat.div_le_self _ _) h)
    omega

/-- A number's bytes: how many, and they. -/
def numL (n : Nat) : List UInt8 := UInt8.ofNat (numLen n) :: beL (numLen n) n
def numS (n : Nat) : ByteArray := ⟨(numL n).toArray⟩
theorem numLen_le (n : Nat) (h : n < 18446744073709551616) : numLen n ≤ 8 := by have := Lib.bitLen_le n 64 (by omega) h; unfold numLen; omega
theorem numL_length (n : Nat) : (numL n).length = numLen n + 1 := by simp [numL, beL_length]
theorem numS_data (n : Nat) : (numS n).data.toList = numL n := rfl
theorem numS_size (n : Nat) (h : n < 18446744073709551616) : (numS n).size ≤ 9 := by
  rw [← data_length, numS_data, numL_length]; have := numLen_le n h; omega
/-- The same as the program writes them: from the front. -/
def numB (n : Nat) : List Int := (numLen n : Int) :: (List.range (numLen n)).map fun k => (((n / 2 ^ (8 * (numLen n - 1 - k))) % 256 : Nat) : Int)
theorem numB_length (n : Nat) : (numB n).length = numLen n + 1 := by simp [numB]
theorem beL_map (m n : Nat) : beL m n = (List.range m).map fun k => UInt8.ofNat (n / 2 ^ (8 * (m - 1 - k)) % 256) := by
  induction m with
  | zero => rfl
  | succ m ih =>
    rw [beL_front, ih, List.range_succ_eq_map, List.map_cons, List.map_map]
    congr 1
    · rw [show 8 * (m + 1 - 1 - 0) = 8 * m by omega, Nat.pow_mul]
    · apply List.map_congr_left
      intro k hk
      have := List.mem_range.1 hk
      simp only [Function.comp]
      rw [show m + 1 - 1 - (k + 1) = m - 1 - k by omega]
theorem numB_S (n : Nat) : strOfNums (numB n) = numS n := by
  unfold numS numL strOfNums numB
  congr 2
  rw [beL_map]
  simp only [List.map_cons, List.map_map, Int.toNat_natCast]
  congr 1
structure PartD where
  text : Bool
  n : Nat
  s : ByteArray
def encP (p : PartD) : List Value := [.bool p.text, .int .u64 p.n, .string p.s]
def kP : Kd PartD := flat 3 encP (fun _ => rfl) (fun x u hu => by simp [encP] at hu; rcases hu with rfl | rfl | rfl <;> rfl)
theorem kP_at {w : World} {A : Option Addr} {n : Nat} {xs : List PartD} (h : Kd.C kP w A n xs) (i : Nat) (hi : i < n) :
    ∃ ad p, A = some ad ∧ xs[i]? = some p ∧ w.cell? (ad.add (i * 3)) = some (.bool p.text) ∧ w.cell? ⟨(ad.add (i * 3)).block, (ad.add (i * 3)).off + 1, none⟩ = some (.int .u64 p.n) ∧ w.cell? ⟨(ad.add (i * 3)).block, (ad.add (i * 3)).off + 2, none⟩ = some (.string p.s) := by
  obtain ⟨ad, p, e, hp, hc⟩ := flat_at h i hi
  exact ⟨ad, p, e, hp, hc 0 _ rfl, by rw [← add_field _ _ 1 (by omega)]; exact hc 1 _ rfl, by rw [← add_field _ _ 2 (by omega)]; exact hc 2 _ rfl⟩
def likeP (x y : PartD) : Bool := x.text == y.text && (x.text && x.s.toList == y.s.toList || !x.text && x.n == y.n)
def oneS (p : PartD) : ByteArray := if p.text then numS p.s.size ++ p.s else numS p.n
def oneL (p : PartD) : List UInt8 := if p.text then (numS p.s.size).data.toList ++ p.s.data.toList else (numS p.n).data.toList
def longP (p : PartD) : Bool := p.text && decide (1024 < p.s.size)
def packL (ps : List PartD) : List UInt8 := ps.flatMap oneL
theorem oneL_len (p : PartD) (h1 : longP p = false) (hn : p.n < 18446744073709551616) : (oneL p).length ≤ 1033 := by
  unfold oneL
  split
  · rename_i ht
    have hs : p.s.size ≤ 1024 := by simpa [longP, ht] using h1
    have := numS_size p.s.size (by omega)
    rw [List.length_append, data_length, data_length]; omega
  · have := numS_size p.n hn
    rw [data_length]; omega
theorem packL_len (ps : List PartD) (h : ∀ p ∈ ps, longP p = false ∧ p.n < 18446744073709551616) : (packL ps).length ≤ 1033 * ps.length := by
  induction ps with
  | nil => simp [packL]
  | cons p ps ih =>
    have h1 := oneL_len p (h p (by simp)).1 (h p (by simp)).2
    have h2 := ih fun q hq => h q (by simp [hq])
    simp only [packL, List.flatMap_cons, List.length_append, List.length_cons] at h2 ⊢
    omega
theorem packL_next {xs : List PartD} {k : Nat} {p : PartD} (h : xs[k]? = some p) : packL (xs.take (k + 1)) = packL (xs.take k) ++ oneL p := by
  rw [take_next h]; simp [packL]

theorem nolong_next {xs : List PartD} {k : Nat} {p : PartD} (h : xs[k]? = some p) (hn : ∀ q ∈ xs.take k, longP q = false) (hp : longP p = false) : ∀ q ∈ xs.take (k + 1), longP q = false := by
  intro q hq
  rw [take_next h] at hq
  rcases List.mem_append.1 hq with hq | hq
  · exact hn q hq
  · rw [List.mem_singleton.1 hq]; exact hp
theorem oneS_data (p : PartD) : (oneS p).data.toList = oneL p := by unfold oneS oneL; split <;> simp
theorem oneS_len (p : PartD) : (oneL p).length = (oneS p).size := by rw [← oneS_data, data_length]
/-- the outcome of Pack -/
def packV (ps : List PartD) : Value := if ps.any longP then .tuple #[.string ⟨#[]⟩, .int .i64 2] else .tuple #[.string ⟨(packL ps).toArray⟩, .int .i64 0]
end Go.Proofs.Ytfghjahmnjghgaa

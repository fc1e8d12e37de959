import Derived.Lib.BitFns
import Derived.Test.YtfghjahmnjghgaaDa
import Derived.Test.YtfghjahmnjghgaaProg
import Derived.Deep.LoopGhost
set_option linter.unusedVariables false
namespace Go.Proofs.Ytfghjahmnjghgaa
open Go.RowKit Go.Proofs.YtfghjahmnjghgaaW.PrintWords

/-! Layer 7 (wire): numbers' and parts' bytes, as lists. -/
def beL : Nat → Nat → List UInt8
  | 0, _ => []
  | m + 1, n => beL m (n / 256) ++ [UInt8.ofNat (n % 256)]
def numLen (n : Nat) : Nat := (Lib.bitLen n + 7) / 8

theorem beL_front (m n : Nat) : beL (m + 1) n = UInt8.ofNat (n / 256 ^ m % 256) :: beL m n := by
  induction m generalizing n with
  | zero => simp [beL]
  | succ m ih => rw [beL, ih, beL, Nat.div_div_eq_div_mul, List.cons_append, Nat.pow_succ, Nat.mul_comm 256]
theorem beL_length (m n : Nat) : (beL m n).length = m := by
  induction m generalizing n with
  | zero => rfl
  | succ m ih => simp [beL, ih]
theorem lt_numLen (n k : Nat) (h : n < 18446744073709551616) : k < numLen n ↔ 0 < n / 256 ^ k := by
  have e : 256 ^ k = 2 ^ (8 * k) := by rw [Nat.pow_mul]
  rw [e]
  unfold numLen
  constructor
  · intro hk
    rcases Nat.eq_zero_or_pos (n / 2 ^ (8 * k)) with h0 | h0
    · have h1 : n < 2 ^ (8 * k) := by (rcases Nat.div_eq_zero_iff.1 h0 with h2 | h2) <;> first | exact h2 | exact absurd h2 (Nat.ne_of_gt (Nat.two_pow_pos _))
      rcases Nat.lt_or_ge 64 (8 * k) with h3 | h3
      · have := Lib.bitLen_le n 64 (by omega) h; omega
      · have := Lib.bitLen_le n (8 * k) h3 h1; omega
    · exact h0
  · intro h0
    have h1 : 2 ^ (8 * k) ≤ n := by
      rcases Nat.lt_or_ge n (2 ^ (8 * k)) with h2 | h2
      · rw [Nat.div_eq_of_lt h2] at h0; omega
      · exact h2
    have h2 := Lib.bitLen_shift (8 * k) n h1 h
    have h3 := Lib.bitLen_half (n / 2 ^ (8 * k)) (by omega) (Nat.lt_of_le_of_lt (Nat.div_le_self _ _) h)
    omega

/-- A number's bytes: how many, and they. -/
def numL (n : Nat) : List UInt8 := UInt8.ofNat (numLen n) :: beL (numLen n) n
def numS (n : Nat) : ByteArray := ⟨(numL n).toArray⟩
theorem numLen_le (n : Nat) (h : n < 18446744073709551616) : numLen n ≤ 8 := by have := Lib.bitLen_le n 64 (by omega) h; unfold numLen; omega
theorem numL_length (n : Nat) : (numL n).length = numLen n + 1 := by simp [numL, beL_length]
theorem numS_data (n : Nat) : (numS n).data.toList = numL n := rfl
theorem numS_size (n : Nat) (h : n < 18446744073709551616) : (numS n).size ≤ 9 := by
  rw [← data_length, numS_data, numL_length]; have := numLen_le n h; omega
/-- The same as the program writes them: from the front. -/
def numB (n : Nat) : List Int := (numLen n : Int) :: (List.range (numLen n)).map fun k => (((n / 2 ^ (8 * (numLen n - 1 - k))) % 256 : Nat) : Int)
theorem numB_length (n : Nat) : (numB n).length = numLen n + 1 := by simp [numB]
theorem beL_map (m n : Nat) : beL m n = (List.range m).map fun k => UInt8.ofNat (n / 2 ^ (8 * (m - 1 - k)) % 256) := by
  induction m with
  | zero => rfl
  | succ m ih =>
    rw [beL_front, ih, List.range_succ_eq_map, List.map_cons, List.map_map]
    congr 1
    · rw [show 8 * (m + 1 - 1 - 0) = 8 * m by omega, Nat.pow_mul]
    · apply List.map_congr_left
      intro k hk
      have := List.mem_range.1 hk
      simp only [Function.comp]
      rw [show m + 1 - 1 - (k + 1) = m - 1 - k by omega]
theorem numB_S (n : Nat) : strOfNums (numB n) = numS n := by
  unfold numS numL strOfNums numB
  congr 2
  rw [beL_map]
  simp only [List.map_cons, List.map_map, Int.toNat_natCast]
  congr 1
structure PartD where
  text : Bool
  n : Nat
  s : ByteArray
def encP (p : PartD) : List Value := [.bool p.text, .int .u64 p.n, .string p.s]
def kP : Kd PartD := flat 3 encP (fun _ => rfl) (fun x u hu => by simp [encP] at hu; rcases hu with rfl | rfl | rfl <;> rfl)
theorem kP_at {w : World} {A : Option Addr} {n : Nat} {xs : List PartD} (h : Kd.C kP w A n xs) (i : Nat) (hi : i < n) :
    ∃ ad p, A = some ad ∧ xs[i]? = some p ∧ w.cell? (ad.add (i * 3)) = some (.bool p.text) ∧ w.cell? ⟨(ad.add (i * 3)).block, (ad.add (i * 3)).off + 1, none⟩ = some (.int .u64 p.n) ∧ w.cell? ⟨(ad.add (i * 3)).block, (ad.add (i * 3)).off + 2, none⟩ = some (.string p.s) := by
  obtain ⟨ad, p, e, hp, hc⟩ := flat_at h i hi
  exact ⟨ad, p, e, hp, hc 0 _ rfl, by rw [← add_field _ _ 1 (by omega)]; exact hc 1 _ rfl, by rw [← add_field _ _ 2 (by omega)]; exact hc 2 _ rfl⟩
def likeP (x y : PartD) : Bool := x.text == y.text && (x.text && x.s.toList == y.s.toList || !x.text && x.n == y.n)
def oneS (p : PartD) : ByteArray := if p.text then numS p.s.size ++ p.s else numS p.n
def oneL (p : PartD) : List UInt8 := if p.text then (numS p.s.size).data.toList ++ p.s.data.toList else (numS p.n).data.toList
def longP (p : PartD) : Bool := p.text && decide (1024 < p.s.size)
def packL (ps : List PartD) : List UInt8 := ps.flatMap oneL
theorem oneL_len (p : PartD) (h1 : longP p = false) (hn : p.n < 18446744073709551616) : (oneL p).length ≤ 1033 := by
  unfold oneL
  split
  · rename_i ht
    have hs : p.s.size ≤ 1024 := by simpa [longP, ht] using h1
    have := numS_size p.s.size (by omega)
    rw [List.length_append, data_length, data_length]; omega
  · have := numS_size p.n hn
    rw [data_length]; omega
theorem packL_len (ps : List PartD) (h : ∀ p ∈ ps, longP p = false ∧ p.n < 18446744073709551616) : (packL ps).length ≤ 1033 * ps.length := by
  induction ps with
  | nil => simp [packL]
  | cons p ps ih =>
    have h1 := oneL_len p (h p (by simp)).1 (h p (by simp)).2
    have h2 := ih fun q hq => h q (by simp [hq])
    simp only [packL, List.flatMap_cons, List.length_append, List.length_cons] at h2 ⊢
    omega
theorem packL_next {xs : List PartD} {k : Nat} {p : PartD} (h : xs[k]? = some p) : packL (xs.take (k + 1)) = packL (xs.take k) ++ oneL p := by
  rw [take_next h]; simp [packL]

theorem nolong_next {xs : List PartD} {k : Nat} {p : PartD} (h : xs[k]? = some p) (hn : ∀ q ∈ xs.take k, longP q = false) (hp : longP p = false) : ∀ q ∈ xs.take (k + 1), longP q = false := by
  intro q hq
  rw [take_next h] at hq
  rcases List.mem_append.1 hq with hq | hq
  · exact hn q hq
  · rw [List.mem_singleton.1 hq]; exact hp
theorem oneS_data (p : PartD) : (oneS p).data.toList = oneL p := by unfold oneS oneL; split <;> simp
theorem oneS_len (p : PartD) : (oneL p).length = (oneS p).size := by rw [← oneS_data, data_length]
/-- the outcome of Pack -/
def packV (ps : List PartD) : Value := if ps.any longP then .tuple #[.string ⟨#[]⟩, .int .i64 2] else .tuple #[.string ⟨(packL ps).toArray⟩, .int .i64 0]
end Go.Proofs.Ytfghjahmnjghgaa

set_option linter.unusedVariables false
set_option linter.unusedSimpArgs false
/- LAYER 8: the frame that parts tell. -/
namespace Go.Proofs.Ytfghjahmnjghgaa
open Go.RowKit Go.Proofs.YtfghjahmnjghgaaW.PrintWords
def numP (n : Nat) : PartD := ⟨false, n, ⟨#[]⟩⟩
def txtP (s : ByteArray) : PartD := ⟨true, 0, s⟩
/-- a frame's cells -/
def frC (kd : Int) (a b c : Nat) (i ba : ByteArray) (sg on : Nat) (ra : ByteArray) (pv nn : Nat) (bo : ByteArray) (sl : Value) : Array Value :=
  #[.int .i64 kd, .int .u64 (a : Int), .int .u64 (b : Int), .int .u64 (c : Int), .string i, .string ba, .int .u64 (sg : Int), .int .u64 (on : Int), .string ra, .int .u64 (pv : Int), .int .u64 (nn : Int), .string bo, sl]
theorem frC_one (kd : Int) (a b c : Nat) (i ba : ByteArray) (sg on : Nat) (ra : ByteArray) (pv nn : Nat) (bo : ByteArray) (A : Option Addr) (n cp : Nat) : (frC kd a b c i ba sg on ra pv nn bo (.slice A n cp)).all (·.oneCell') = true := by
  rw [Array.all_eq_true_iff_forall_mem]
  intro x hx
  simp only [frC, List.mem_toArray, List.mem_cons, List.not_mem_nil, or_false] at hx
  rcases hx with rfl | rfl | rfl | rfl | rfl | rfl | rfl | rfl | rfl | rfl | rfl | rfl | rfl <;> rfl
theorem kP_cells {w : World} {A : Option Addr} {n : Nat} {xs : List PartD} (h : Kd.C kP w A n xs) (h0 : 0 < n) : ∃ bk o, A = some ⟨bk, o, none⟩ ∧ (∀ j p, xs[j]? = some p → w.cell? ⟨bk, o + j * 3, none⟩ = some (.bool p.text) ∧ w.cell? ⟨bk, o + j * 3 + 1, none⟩ = some (.int .u64 (p.n : Int)) ∧ w.cell? ⟨bk, o + j * 3 + 2, none⟩ = some (.string p.s)) ∧ bk < w.heap.size := by
  obtain ⟨ad, p0, hA, _, h1, _⟩ := kP_at h 0 h0
  have ha : ad.add (0 * 3) = ad := by unfold Addr.add; simp
  rw [ha] at h1
  have hsp : ad.spot = none ∧ ad.block < w.heap.size := by
    unfold World.cell? at h1
    split at h1
    · rename_i hb
      split at h1
      · cases h1
      · rename_i hs
        refine ⟨by cases hq : ad.spot with | none => rfl | some _ => simp [hq] at hs, (Array.getElem?_eq_some_iff.1 hb).1⟩
    · cases h1
  obtain ⟨bk, of, sp⟩ := ad
  obtain rfl : sp = none := hsp.1
  refine ⟨bk, of, hA, fun j p hj => ?_, hsp.2⟩
  have hjn : j < n := by have := h.1; have := (List.getElem?_eq_some_iff.1 hj).1; omega
  obtain ⟨ad2, p2, hA2, hp2, g1, g2, g3⟩ := kP_at h j hjn
  obtain rfl := Option.some.inj (hA.symm.trans hA2)
  obtain rfl := Option.some.inj (hj.symm.trans hp2)
  rw [Addr.add_mid] at g1 g2 g3
  exact ⟨g1, g2, g3⟩
attribute [local irreducible] Calls
set_option maxHeartbeats 8000000 in
set_option maxRecDepth 100000 in
theorem of_hello (A : Option Addr) (cp : Nat) (a b c : Nat) (i ba : ByteArray) (sg on : Nat) (ra : ByteArray) (pv nn : Nat) (bo : ByteArray) (w : World) (hC : Kd.C kP w A 12 [numP 0, numP a, numP b, numP c, txtP i, txtP ba, numP sg, numP on, txtP ra, numP pv, numP nn, txtP bo]) (hcp : 12 ≤ cp) :
    Calls Try.prog 27 #[.slice A 12 cp] w fun e w' => e = .returned (.agg (frC 0 a b c i ba sg on ra pv nn bo (.slice none 0 0))) ∧ Below w.heap.size w w' := by
  obtain ⟨bk, o, rfl, hcell, _⟩ := kP_cells hC (by decide)
  have d1 : w.cell? ⟨bk, o + 1, none⟩ = some (.int .u64 0) := (hcell 0 _ rfl).2.1
  have d4 : w.cell? ⟨bk, o + 4, none⟩ = some (.int .u64 (a : Int)) := (hcell 1 _ rfl).2.1
  have d7 : w.cell? ⟨bk, o + 7, none⟩ = some (.int .u64 (b : Int)) := (hcell 2 _ rfl).2.1
  have d10 : w.cell? ⟨bk, o + 10, none⟩ = some (.int .u64 (c : Int)) := (hcell 3 _ rfl).2.1
  have d14 : w.cell? ⟨bk, o + 14, none⟩ = some (.string i) := (hcell 4 _ rfl).2.2
  have d17 : w.cell? ⟨bk, o + 17, none⟩ = some (.string ba) := (hcell 5 _ rfl).2.2
  have d19 : w.cell? ⟨bk, o + 19, none⟩ = some (.int .u64 (sg : Int)) := (hcell 6 _ rfl).2.1
  have d22 : w.cell? ⟨bk, o + 22, none⟩ = some (.int .u64 (on : Int)) := (hcell 7 _ rfl).2.1
  have d26 : w.cell? ⟨bk, o + 26, none⟩ = some (.string ra) := (hcell 8 _ rfl).2.2
  have d28 : w.cell? ⟨bk, o + 28, none⟩ = some (.int .u64 (pv : Int)) := (hcell 9 _ rfl).2.1
  have d31 : w.cell? ⟨bk, o + 31, none⟩ = some (.int .u64 (nn : Int)) := (hcell 10 _ rfl).2.1
  have d35 : w.cell? ⟨bk, o + 35, none⟩ = some (.string bo) := (hcell 11 _ rfl).2.2
  clear hC hcell
  have HO := (Own.start w).alloc' (.cells #[.int .i64 0, .int .u64 0, .int .u64 0, .int .u64 0, .string ⟨#[]⟩, .string ⟨#[]⟩, .int .u64 0, .int .u64 0, .string ⟨#[]⟩, .int .u64 0, .int .u64 0, .string ⟨#[]⟩, .slice none 0 0] 25) rfl
  go_enter Try.func27, Try.ntmps27
  go_wp2_with fail
  refine bstart (fun w => w.heap.size) (n := 20) (ds := [19]) #[false, false, false, false, false, false, false, false, false, false, false, false, false, false, false, false, false, false, false, false] (by kernel_rfl) rfl rfl (Nat.le_refl _) (fun HBS => ?_)
  refine bseq (m := 2) (.inl rfl) [(0, true, some 6), (1, true, some 7), (2, true, some 8), (5, true, some 11), (6, true, some 12), (7, true, some 13), (9, true, some 15), (10, true, some 16), (11, true, some 17), (13, true, some 19), (14, true, some 20), (15, true, some 21), (3, true, some 9), (4, true, some 10), (8, true, some 14), (12, true, some 18), (16, true, some 22), (17, true, some 23)] #[true, true, true, true, true, true, true, true, true, true, true, true, true, true, true, true, true, true, false, false] HBS (by kernel_rfl) rfl (fun _ _ _ _ _ h => h) ?_
  (refine sP (v := ?_) (a' := ?_) rfl rfl (by rfl) ?_ ?_ ?_; rotate_left 2; (· intro w'; go_simp; with_reducible rfl); (· simp only [Act.put, List.setIfInBounds_toArray, List.set_cons_zero, List.set_cons_succ, kw64, kw32]; rfl))
  (refine sP (v := ?_) (a' := ?_) rfl rfl (by rfl) ?_ ?_ ?_; rotate_left 2; (· intro w'; go_simp; with_reducible rfl); (· simp only [Act.put, List.setIfInBounds_toArray, List.set_cons_zero, List.set_cons_succ, kw64, kw32]; rfl))
  (refine sP (v := ?_) (a' := ?_) rfl rfl (by rfl) ?_ ?_ ?_; rotate_left 2; (· intro w'; go_simp; with_reducible rfl); (· simp only [Act.put, List.setIfInBounds_toArray, List.set_cons_zero, List.set_cons_succ, kw64, kw32]; rfl))
  (refine sP (v := ?_) (a' := ?_) rfl rfl (by rfl) ?_ ?_ ?_; rotate_left 2; (· intro w'; go_simp; with_reducible rfl); (· simp only [Act.put, List.setIfInBounds_toArray, List.set_cons_zero, List.set_cons_succ, kw64, kw32]; rfl))
  (refine sP (v := ?_) (a' := ?_) rfl rfl (by rfl) ?_ ?_ ?_; rotate_left 2; (· intro w'; go_simp; with_reducible rfl); (· simp only [Act.put, List.setIfInBounds_toArray, List.set_cons_zero, List.set_cons_succ, kw64, kw32]; rfl))
  (refine sP (v := ?_) (a' := ?_) rfl rfl (by rfl) ?_ ?_ ?_; rotate_left 2; (· intro w'; go_simp; with_reducible rfl); (· simp only [Act.put, List.setIfInBounds_toArray, List.set_cons_zero, List.set_cons_succ, kw64, kw32]; rfl))
  (refine sP (v := ?_) (a' := ?_) rfl rfl (by rfl) ?_ ?_ ?_; rotate_left 2; (· intro w'; go_simp; with_reducible rfl); (· simp only [Act.put, List.setIfInBounds_toArray, List.set_cons_zero, List.set_cons_succ, kw64, kw32]; rfl))
  (refine sP (v := ?_) (a' := ?_) rfl rfl (by rfl) ?_ ?_ ?_; rotate_left 2; (· intro w'; go_simp; with_reducible rfl); (· simp only [Act.put, List.setIfInBounds_toArray, List.set_cons_zero, List.set_cons_succ, kw64, kw32]; rfl))
  (refine sP (v := ?_) (a' := ?_) rfl rfl (by rfl) ?_ ?_ ?_; rotate_left 2; (· intro w'; go_simp; with_reducible rfl); (· simp only [Act.put, List.setIfInBounds_toArray, List.set_cons_zero, List.set_cons_succ, kw64, kw32]; rfl))
  (refine sP (v := ?_) (a' := ?_) rfl rfl (by rfl) ?_ ?_ ?_; rotate_left 2; (· intro w'; go_simp; with_reducible rfl); (· simp only [Act.put, List.setIfInBounds_toArray, List.set_cons_zero, List.set_cons_succ, kw64, kw32]; rfl))
  (refine sP (v := ?_) (a' := ?_) rfl rfl (by rfl) ?_ ?_ ?_; rotate_left 2; (· intro w'; go_simp; with_reducible rfl); (· simp only [Act.put, List.setIfInBounds_toArray, List.set_cons_zero, List.set_cons_succ, kw64, kw32]; rfl))
  (refine sP (v := ?_) (a' := ?_) rfl rfl (by rfl) ?_ ?_ ?_; rotate_left 2; (· intro w'; go_simp; with_reducible rfl); (· simp only [Act.put, List.setIfInBounds_toArray, List.set_cons_zero, List.set_cons_succ, kw64, kw32]; rfl))
  (refine sB (v := ?_) (a' := ?_) rfl rfl (by rfl) ?_ ?_ ?_; rotate_left 2; (· intro w1 hg; have e1 := pw_cell_below (HO.up hg).below d1; have e4 := pw_cell_below (HO.up hg).below d4; have e7 := pw_cell_below (HO.up hg).below d7; have e10 := pw_cell_below (HO.up hg).below d10; go_simp; with_reducible rfl); (· simp only [Act.put, List.setIfInBounds_toArray, List.set_cons_zero, List.set_cons_succ, kw64, kw32]; rfl))
  (refine sP (v := .int .i64 0) (a' := ?_) rfl rfl (by rfl) ?_ ?_ ?_; rotate_left 1; (· intro w'; go_simp; try rfl); (· simp only [Act.put, List.setIfInBounds_toArray, List.set_cons_zero, List.set_cons_succ, kw64, kw32]; rfl))
  (refine sB (v := ?_) (a' := ?_) rfl rfl (by rfl) ?_ ?_ ?_; rotate_left 2; (· intro w1 hg; have e1 := pw_cell_below (HO.up hg).below d1; have e4 := pw_cell_below (HO.up hg).below d4; have e7 := pw_cell_below (HO.up hg).below d7; have e10 := pw_cell_below (HO.up hg).below d10; go_simp; with_reducible rfl); (· simp only [Act.put, List.setIfInBounds_toArray, List.set_cons_zero, List.set_cons_succ, kw64, kw32]; rfl))
  (refine sB (v := ?_) (a' := ?_) rfl rfl (by rfl) ?_ ?_ ?_; rotate_left 2; (· intro w1 hg; have e1 := pw_cell_below (HO.up hg).below d1; have e4 := pw_cell_below (HO.up hg).below d4; have e7 := pw_cell_below (HO.up hg).below d7; have e10 := pw_cell_below (HO.up hg).below d10; go_simp; with_reducible rfl); (· simp only [Act.put, List.setIfInBounds_toArray, List.set_cons_zero, List.set_cons_succ, kw64, kw32]; rfl))
  (refine sB (v := ?_) (a' := ?_) rfl rfl (by rfl) ?_ ?_ ?_; rotate_left 2; (· intro w1 hg; have e1 := pw_cell_below (HO.up hg).below d1; have e4 := pw_cell_below (HO.up hg).below d4; have e7 := pw_cell_below (HO.up hg).below d7; have e10 := pw_cell_below (HO.up hg).below d10; go_simp; with_reducible rfl); (· simp only [Act.put, List.setIfInBounds_toArray, List.set_cons_zero, List.set_cons_succ, kw64, kw32]; rfl))
  (refine sP (v := ?_) (a' := ?_) rfl rfl (by rfl) ?_ ?_ ?_; rotate_left 2; (· intro w'; go_simp; with_reducible rfl); (· simp only [Act.put, List.setIfInBounds_toArray, List.set_cons_zero, List.set_cons_succ, kw64, kw32]; rfl))
  refine bone (i := 18) (N := (some 3)) #[true, true, true, true, true, true, true, true, true, true, true, true, true, true, true, true, true, true, true, false] rfl rfl (by kernel_rfl) HBS (fun w1 hg K hK => ?_)
  rw [if_pos (by rfl)]
  replace HO := HO.up hg
  have hz := HO.lt 0 rfl
  go_simp
  refine hK _ _ (not_ds (by decide) (below_alloc (Below.refl _ _) _)) (fun HBS => ?_)
  replace HO := HO.alloc (.cells #[.int .i64 0, .int .u64 0, .int .u64 0, .int .u64 0, .string ⟨#[]⟩, .string ⟨#[]⟩, .int .u64 0, .int .u64 0, .string ⟨#[]⟩, .int .u64 0, .int .u64 0, .string ⟨#[]⟩, .slice none 0 0] 25)
  have hga := Below.size hg
  clear hg K hK hz
  generalize w1.alloc (.cells #[.int .i64 0, .int .u64 0, .int .u64 0, .int .u64 0, .string ⟨#[]⟩, .string ⟨#[]⟩, .int .u64 0, .int .u64 0, .string ⟨#[]⟩, .int .u64 0, .int .u64 0, .string ⟨#[]⟩, .slice none 0 0] 25) = wa at *
  generalize w1.heap.size = ga at *
  refine bone (i := 19) (N := none) #[true, true, true, true, true, true, true, true, true, true, true, true, true, true, true, true, true, true, true, true] rfl rfl (by kernel_rfl) HBS (fun w1 hg K hK => ?_)
  rw [if_pos (by rfl)]
  replace HO := HO.up hg
  refine wp_store_row 25 (.tmp 3) (.tmp 23) rfl ga #[.int .i64 0, .int .u64 (a : Int), .int .u64 (b : Int), .int .u64 (c : Int), .string ⟨#[]⟩, .string ⟨#[]⟩, .int .u64 0, .int .u64 0, .string ⟨#[]⟩, .int .u64 0, .int .u64 0, .string ⟨#[]⟩, (.slice none 0 0)] (by rfl) (by rfl) _ _ (HO.blk 0 rfl) (by kernel_rfl) rfl (frC_one _ _ _ _ _ _ _ _ _ _ _ _ _ _ _) ?_
  refine hK _ _ (in_ds (by decide) (bel_setRow (by omega) _)) (fun HBS => ?_)
  replace HO := HO.setRow 0 rfl #[.int .i64 0, .int .u64 (a : Int), .int .u64 (b : Int), .int .u64 (c : Int), .string ⟨#[]⟩, .string ⟨#[]⟩, .int .u64 0, .int .u64 0, .string ⟨#[]⟩, .int .u64 0, .int .u64 0, .string ⟨#[]⟩, (.slice none 0 0)] rfl
  clear hg K hK
  revert HO HBS
  generalize World.setRow w1 _ _ = wb
  intro HBS HO
  refine bdone (by kernel_rfl) (fun w1 hg => ?_)
  replace HO := HO.up hg
  clear hg
  have c0 := HO.cell 0 rfl 0
  go_wp2_with fail
  clear c0
  refine bstart (fun _ => w.heap.size) (n := 24) (ds := [17, 19, 21, 23]) #[false, false, false, false, false, false, false, false, false, false, false, false, false, false, false, false, false, false, false, false, false, false, false, false] (by kernel_rfl) rfl rfl HO.below.size (fun HBS => ?_)
  refine bseq (m := 7) (.inl rfl) [(0, true, some 29), (1, true, some 30), (2, true, some 31), (4, true, some 33), (5, true, some 34), (6, true, some 35), (8, true, some 37), (9, true, some 38), (10, true, some 39), (12, true, some 41), (13, true, some 42), (14, true, some 43), (3, true, some 32), (16, true, some 45), (7, true, some 36), (11, true, some 40), (15, true, some 44)] #[true, true, true, true, true, true, true, true, true, true, true, true, true, true, true, true, true, false, false, false, false, false, false, false] HBS (by kernel_rfl) rfl (fun _ _ _ _ _ h => h) ?_
  (refine sP (v := ?_) (a' := ?_) rfl rfl (by rfl) ?_ ?_ ?_; rotate_left 2; (· intro w'; go_simp; with_reducible rfl); (· simp only [Act.put, List.setIfInBounds_toArray, List.set_cons_zero, List.set_cons_succ, kw64, kw32]; rfl))
  (refine sP (v := ?_) (a' := ?_) rfl rfl (by rfl) ?_ ?_ ?_; rotate_left 2; (· intro w'; go_simp; with_reducible rfl); (· simp only [Act.put, List.setIfInBounds_toArray, List.set_cons_zero, List.set_cons_succ, kw64, kw32]; rfl))
  (refine sP (v := ?_) (a' := ?_) rfl rfl (by rfl) ?_ ?_ ?_; rotate_left 2; (· intro w'; go_simp; with_reducible rfl); (· simp only [Act.put, List.setIfInBounds_toArray, List.set_cons_zero, List.set_cons_succ, kw64, kw32]; rfl))
  (refine sP (v := ?_) (a' := ?_) rfl rfl (by rfl) ?_ ?_ ?_; rotate_left 2; (· intro w'; go_simp; with_reducible rfl); (· simp only [Act.put, List.setIfInBounds_toArray, List.set_cons_zero, List.set_cons_succ, kw64, kw32]; rfl))
  (refine sP (v := ?_) (a' := ?_) rfl rfl (by rfl) ?_ ?_ ?_; rotate_left 2; (· intro w'; go_simp; with_reducible rfl); (· simp only [Act.put, List.setIfInBounds_toArray, List.set_cons_zero, List.set_cons_succ, kw64, kw32]; rfl))
  (refine sP (v := ?_) (a' := ?_) rfl rfl (by rfl) ?_ ?_ ?_; rotate_left 2; (· intro w'; go_simp; with_reducible rfl); (· simp only [Act.put, List.setIfInBounds_toArray, List.set_cons_zero, List.set_cons_succ, kw64, kw32]; rfl))
  (refine sP (v := ?_) (a' := ?_) rfl rfl (by rfl) ?_ ?_ ?_; rotate_left 2; (· intro w'; go_simp; with_reducible rfl); (· simp only [Act.put, List.setIfInBounds_toArray, List.set_cons_zero, List.set_cons_succ, kw64, kw32]; rfl))
  (refine sP (v := ?_) (a' := ?_) rfl rfl (by rfl) ?_ ?_ ?_; rotate_left 2; (· intro w'; go_simp; with_reducible rfl); (· simp only [Act.put, List.setIfInBounds_toArray, List.set_cons_zero, List.set_cons_succ, kw64, kw32]; rfl))
  (refine sP (v := ?_) (a' := ?_) rfl rfl (by rfl) ?_ ?_ ?_; rotate_left 2; (· intro w'; go_simp; with_reducible rfl); (· simp only [Act.put, List.setIfInBounds_toArray, List.set_cons_zero, List.set_cons_succ, kw64, kw32]; rfl))
  (refine sP (v := ?_) (a' := ?_) rfl rfl (by rfl) ?_ ?_ ?_; rotate_left 2; (· intro w'; go_simp; with_reducible rfl); (· simp only [Act.put, List.setIfInBounds_toArray, List.set_cons_zero, List.set_cons_succ, kw64, kw32]; rfl))
  (refine sP (v := ?_) (a' := ?_) rfl rfl (by rfl) ?_ ?_ ?_; rotate_left 2; (· intro w'; go_simp; with_reducible rfl); (· simp only [Act.put, List.setIfInBounds_toArray, List.set_cons_zero, List.set_cons_succ, kw64, kw32]; rfl))
  (refine sP (v := ?_) (a' := ?_) rfl rfl (by rfl) ?_ ?_ ?_; rotate_left 2; (· intro w'; go_simp; with_reducible rfl); (· simp only [Act.put, List.setIfInBounds_toArray, List.set_cons_zero, List.set_cons_succ, kw64, kw32]; rfl))
  (refine sB (v := ?_) (a' := ?_) rfl rfl (by rfl) ?_ ?_ ?_; rotate_left 2; (· intro w1 hg; have e14 := pw_cell_below (HO.below.trans hg) d14; have e17 := pw_cell_below (HO.below.trans hg) d17; have e19 := pw_cell_below (HO.below.trans hg) d19; have e22 := pw_cell_below (HO.below.trans hg) d22; go_simp; with_reducible rfl); (· simp only [Act.put, List.setIfInBounds_toArray, List.set_cons_zero, List.set_cons_succ, kw64, kw32]; rfl))
  (refine sP (v := ?_) (a' := ?_) rfl rfl (by rfl) ?_ ?_ ?_; rotate_left 2; (· intro w'; go_simp; with_reducible rfl); (· simp only [Act.put, List.setIfInBounds_toArray, List.set_cons_zero, List.set_cons_succ, kw64, kw32]; rfl))
  (refine sB (v := ?_) (a' := ?_) rfl rfl (by rfl) ?_ ?_ ?_; rotate_left 2; (· intro w1 hg; have e14 := pw_cell_below (HO.below.trans hg) d14; have e17 := pw_cell_below (HO.below.trans hg) d17; have e19 := pw_cell_below (HO.below.trans hg) d19; have e22 := pw_cell_below (HO.below.trans hg) d22; go_simp; with_reducible rfl); (· simp only [Act.put, List.setIfInBounds_toArray, List.set_cons_zero, List.set_cons_succ, kw64, kw32]; rfl))
  (refine sB (v := ?_) (a' := ?_) rfl rfl (by rfl) ?_ ?_ ?_; rotate_left 2; (· intro w1 hg; have e14 := pw_cell_below (HO.below.trans hg) d14; have e17 := pw_cell_below (HO.below.trans hg) d17; have e19 := pw_cell_below (HO.below.trans hg) d19; have e22 := pw_cell_below (HO.below.trans hg) d22; go_simp; with_reducible rfl); (· simp only [Act.put, List.setIfInBounds_toArray, List.set_cons_zero, List.set_cons_succ, kw64, kw32]; rfl))
  (refine sB (v := ?_) (a' := ?_) rfl rfl (by rfl) ?_ ?_ ?_; rotate_left 2; (· intro w1 hg; have e14 := pw_cell_below (HO.below.trans hg) d14; have e17 := pw_cell_below (HO.below.trans hg) d17; have e19 := pw_cell_below (HO.below.trans hg) d19; have e22 := pw_cell_below (HO.below.trans hg) d22; go_simp; with_reducible rfl); (· simp only [Act.put, List.setIfInBounds_toArray, List.set_cons_zero, List.set_cons_succ, kw64, kw32]; rfl))
  refine bone (i := 17) (N := none) #[true, true, true, true, true, true, true, true, true, true, true, true, true, true, true, true, true, true, false, false, false, false, false, false] rfl rfl (by kernel_rfl) HBS (fun w1 hg K hK => ?_)
  rw [if_pos (by rfl)]
  replace HO := HO.up hg
  have c0 := HO.cell 0 rfl 4
  have f0 := HO.frozen 0 rfl 4
  go_simp
  refine hK _ _ (in_ds (by decide) (bel_set (by have := HO.ge 0 rfl; exact this))) (fun HBS => ?_)
  replace HO := HO.set' 0 rfl 4 (.string i) (L' := [(ga, .cells #[.int .i64 0, .int .u64 (a : Int), .int .u64 (b : Int), .int .u64 (c : Int), .string i, .string ⟨#[]⟩, .int .u64 0, .int .u64 0, .string ⟨#[]⟩, .int .u64 0, .int .u64 0, .string ⟨#[]⟩, (.slice none 0 0)] 25 (0, 0)), (w.heap.size, .cells #[.int .i64 0, .int .u64 0, .int .u64 0, .int .u64 0, .string ⟨#[]⟩, .string ⟨#[]⟩, .int .u64 0, .int .u64 0, .string ⟨#[]⟩, .int .u64 0, .int .u64 0, .string ⟨#[]⟩, .slice none 0 0] 25 (0, 0))]) rfl
  clear c0 f0 hg K hK
  revert HO HBS
  generalize World.setCell w1 _ _ = wb
  intro HBS HO
  refine bseq (m := 5) (.inl rfl) [(18, true, some 46)] #[true, true, true, true, true, true, true, true, true, true, true, true, true, true, true, true, true, true, true, false, false, false, false, false] HBS (by kernel_rfl) rfl (fun _ _ _ _ _ h => h) ?_
  (refine sP (v := ?_) (a' := ?_) rfl rfl (by rfl) ?_ ?_ ?_; rotate_left 2; (· intro w'; go_simp; with_reducible rfl); (· simp only [Act.put, List.setIfInBounds_toArray, List.set_cons_zero, List.set_cons_succ, kw64, kw32]; rfl))
  refine bone (i := 19) (N := none) #[true, true, true, true, true, true, true, true, true, true, true, true, true, true, true, true, true, true, true, true, false, false, false, false] rfl rfl (by kernel_rfl) HBS (fun w1 hg K hK => ?_)
  rw [if_pos (by rfl)]
  replace HO := HO.up hg
  have c0 := HO.cell 0 rfl 5
  have f0 := HO.frozen 0 rfl 5
  go_simp
  refine hK _ _ (in_ds (by decide) (bel_set (by have := HO.ge 0 rfl; exact this))) (fun HBS => ?_)
  replace HO := HO.set' 0 rfl 5 (.string ba) (L' := [(ga, .cells #[.int .i64 0, .int .u64 (a : Int), .int .u64 (b : Int), .int .u64 (c : Int), .string i, .string ba, .int .u64 0, .int .u64 0, .string ⟨#[]⟩, .int .u64 0, .int .u64 0, .string ⟨#[]⟩, (.slice none 0 0)] 25 (0, 0)), (w.heap.size, .cells #[.int .i64 0, .int .u64 0, .int .u64 0, .int .u64 0, .string ⟨#[]⟩, .string ⟨#[]⟩, .int .u64 0, .int .u64 0, .string ⟨#[]⟩, .int .u64 0, .int .u64 0, .string ⟨#[]⟩, .slice none 0 0] 25 (0, 0))]) rfl
  clear c0 f0 hg K hK
  revert HO HBS
  generalize World.setCell w1 _ _ = wb
  intro HBS HO
  refine bseq (m := 3) (.inl rfl) [(20, true, some 47)] #[true, true, true, true, true, true, true, true, true, true, true, true, true, true, true, true, true, true, true, true, true, false, false, false] HBS (by kernel_rfl) rfl (fun _ _ _ _ _ h => h) ?_
  (refine sP (v := ?_) (a' := ?_) rfl rfl (by rfl) ?_ ?_ ?_; rotate_left 2; (· intro w'; go_simp; with_reducible rfl); (· simp only [Act.put, List.setIfInBounds_toArray, List.set_cons_zero, List.set_cons_succ, kw64, kw32]; rfl))
  refine bone (i := 21) (N := none) #[true, true, true, true, true, true, true, true, true, true, true, true, true, true, true, true, true, true, true, true, true, true, false, false] rfl rfl (by kernel_rfl) HBS (fun w1 hg K hK => ?_)
  rw [if_pos (by rfl)]
  replace HO := HO.up hg
  have c0 := HO.cell 0 rfl 6
  have f0 := HO.frozen 0 rfl 6
  go_simp
  refine hK _ _ (in_ds (by decide) (bel_set (by have := HO.ge 0 rfl; exact this))) (fun HBS => ?_)
  replace HO := HO.set' 0 rfl 6 (.int .u64 (sg : Int)) (L' := [(ga, .cells #[.int .i64 0, .int .u64 (a : Int), .int .u64 (b : Int), .int .u64 (c : Int), .string i, .string ba, .int .u64 (sg : Int), .int .u64 0, .string ⟨#[]⟩, .int .u64 0, .int .u64 0, .string ⟨#[]⟩, (.slice none 0 0)] 25 (0, 0)), (w.heap.size, .cells #[.int .i64 0, .int .u64 0, .int .u64 0, .int .u64 0, .string ⟨#[]⟩, .string ⟨#[]⟩, .int .u64 0, .int .u64 0, .string ⟨#[]⟩, .int .u64 0, .int .u64 0, .string ⟨#[]⟩, .slice none 0 0] 25 (0, 0))]) rfl
  clear c0 f0 hg K hK
  revert HO HBS
  generalize World.setCell w1 _ _ = wb
  intro HBS HO
  refine bseq (m := 1) (.inl rfl) [(22, true, some 48)] #[true, true, true, true, true, true, true, true, true, true, true, true, true, true, true, true, true, true, true, true, true, true, true, false] HBS (by kernel_rfl) rfl (fun _ _ _ _ _ h => h) ?_
  (refine sP (v := ?_) (a' := ?_) rfl rfl (by rfl) ?_ ?_ ?_; rotate_left 2; (· intro w'; go_simp; with_reducible rfl); (· simp only [Act.put, List.setIfInBounds_toArray, List.set_cons_zero, List.set_cons_succ, kw64, kw32]; rfl))
  refine bone (i := 23) (N := none) #[true, true, true, true, true, true, true, true, true, true, true, true, true, true, true, true, true, true, true, true, true, true, true, true] rfl rfl (by kernel_rfl) HBS (fun w1 hg K hK => ?_)
  rw [if_pos (by rfl)]
  replace HO := HO.up hg
  have c0 := HO.cell 0 rfl 7
  have f0 := HO.frozen 0 rfl 7
  go_simp
  refine hK _ _ (in_ds (by decide) (bel_set (by have := HO.ge 0 rfl; exact this))) (fun HBS => ?_)
  replace HO := HO.set' 0 rfl 7 (.int .u64 (on : Int)) (L' := [(ga, .cells #[.int .i64 0, .int .u64 (a : Int), .int .u64 (b : Int), .int .u64 (c : Int), .string i, .string ba, .int .u64 (sg : Int), .int .u64 (on : Int), .string ⟨#[]⟩, .int .u64 0, .int .u64 0, .string ⟨#[]⟩, (.slice none 0 0)] 25 (0, 0)), (w.heap.size, .cells #[.int .i64 0, .int .u64 0, .int .u64 0, .int .u64 0, .string ⟨#[]⟩, .string ⟨#[]⟩, .int .u64 0, .int .u64 0, .string ⟨#[]⟩, .int .u64 0, .int .u64 0, .string ⟨#[]⟩, .slice none 0 0] 25 (0, 0))]) rfl
  clear c0 f0 hg K hK
  revert HO HBS
  generalize World.setCell w1 _ _ = wb
  intro HBS HO
  refine bdone (by kernel_rfl) (fun w1 hg => ?_)
  replace HO := HO.up hg
  clear hg
  have c0 := HO.cell 0 rfl 0
  go_wp2_with fail
  clear c0
  refine bstart (fun _ => w.heap.size) (n := 24) (ds := [17, 19, 21, 23]) #[false, false, false, false, false, false, false, false, false, false, false, false, false, false, false, false, false, false, false, false, false, false, false, false] (by kernel_rfl) rfl rfl HO.below.size (fun HBS => ?_)
  refine bseq (m := 7) (.inl rfl) [(0, true, some 54), (1, true, some 55), (2, true, some 56), (4, true, some 58), (5, true, some 59), (6, true, some 60), (8, true, some 62), (9, true, some 63), (10, true, some 64), (12, true, some 66), (13, true, some 67), (14, true, some 68), (3, true, some 57), (16, true, some 70), (7, true, some 61), (11, true, some 65), (15, true, some 69)] #[true, true, true, true, true, true, true, true, true, true, true, true, true, true, true, true, true, false, false, false, false, false, false, false] HBS (by kernel_rfl) rfl (fun _ _ _ _ _ h => h) ?_
  (refine sP (v := ?_) (a' := ?_) rfl rfl (by rfl) ?_ ?_ ?_; rotate_left 2; (· intro w'; go_simp; with_reducible rfl); (· simp only [Act.put, List.setIfInBounds_toArray, List.set_cons_zero, List.set_cons_succ, kw64, kw32]; rfl))
  (refine sP (v := ?_) (a' := ?_) rfl rfl (by rfl) ?_ ?_ ?_; rotate_left 2; (· intro w'; go_simp; with_reducible rfl); (· simp only [Act.put, List.setIfInBounds_toArray, List.set_cons_zero, List.set_cons_succ, kw64, kw32]; rfl))
  (refine sP (v := ?_) (a' := ?_) rfl rfl (by rfl) ?_ ?_ ?_; rotate_left 2; (· intro w'; go_simp; with_reducible rfl); (· simp only [Act.put, List.setIfInBounds_toArray, List.set_cons_zero, List.set_cons_succ, kw64, kw32]; rfl))
  (refine sP (v := ?_) (a' := ?_) rfl rfl (by rfl) ?_ ?_ ?_; rotate_left 2; (· intro w'; go_simp; with_reducible rfl); (· simp only [Act.put, List.setIfInBounds_toArray, List.set_cons_zero, List.set_cons_succ, kw64, kw32]; rfl))
  (refine sP (v := ?_) (a' := ?_) rfl rfl (by rfl) ?_ ?_ ?_; rotate_left 2; (· intro w'; go_simp; with_reducible rfl); (· simp only [Act.put, List.setIfInBounds_toArray, List.set_cons_zero, List.set_cons_succ, kw64, kw32]; rfl))
  (refine sP (v := ?_) (a' := ?_) rfl rfl (by rfl) ?_ ?_ ?_; rotate_left 2; (· intro w'; go_simp; with_reducible rfl); (· simp only [Act.put, List.setIfInBounds_toArray, List.set_cons_zero, List.set_cons_succ, kw64, kw32]; rfl))
  (refine sP (v := ?_) (a' := ?_) rfl rfl (by rfl) ?_ ?_ ?_; rotate_left 2; (· intro w'; go_simp; with_reducible rfl); (· simp only [Act.put, List.setIfInBounds_toArray, List.set_cons_zero, List.set_cons_succ, kw64, kw32]; rfl))
  (refine sP (v := ?_) (a' := ?_) rfl rfl (by rfl) ?_ ?_ ?_; rotate_left 2; (· intro w'; go_simp; with_reducible rfl); (· simp only [Act.put, List.setIfInBounds_toArray, List.set_cons_zero, List.set_cons_succ, kw64, kw32]; rfl))
  (refine sP (v := ?_) (a' := ?_) rfl rfl (by rfl) ?_ ?_ ?_; rotate_left 2; (· intro w'; go_simp; with_reducible rfl); (· simp only [Act.put, List.setIfInBounds_toArray, List.set_cons_zero, List.set_cons_succ, kw64, kw32]; rfl))
  (refine sP (v := ?_) (a' := ?_) rfl rfl (by rfl) ?_ ?_ ?_; rotate_left 2; (· intro w'; go_simp; with_reducible rfl); (· simp only [Act.put, List.setIfInBounds_toArray, List.set_cons_zero, List.set_cons_succ, kw64, kw32]; rfl))
  (refine sP (v := ?_) (a' := ?_) rfl rfl (by rfl) ?_ ?_ ?_; rotate_left 2; (· intro w'; go_simp; with_reducible rfl); (· simp only [Act.put, List.setIfInBounds_toArray, List.set_cons_zero, List.set_cons_succ, kw64, kw32]; rfl))
  (refine sP (v := ?_) (a' := ?_) rfl rfl (by rfl) ?_ ?_ ?_; rotate_left 2; (· intro w'; go_simp; with_reducible rfl); (· simp only [Act.put, List.setIfInBounds_toArray, List.set_cons_zero, List.set_cons_succ, kw64, kw32]; rfl))
  (refine sB (v := ?_) (a' := ?_) rfl rfl (by rfl) ?_ ?_ ?_; rotate_left 2; (· intro w1 hg; have e26 := pw_cell_below (HO.below.trans hg) d26; have e28 := pw_cell_below (HO.below.trans hg) d28; have e31 := pw_cell_below (HO.below.trans hg) d31; have e35 := pw_cell_below (HO.below.trans hg) d35; go_simp; with_reducible rfl); (· simp only [Act.put, List.setIfInBounds_toArray, List.set_cons_zero, List.set_cons_succ, kw64, kw32]; rfl))
  (refine sP (v := ?_) (a' := ?_) rfl rfl (by rfl) ?_ ?_ ?_; rotate_left 2; (· intro w'; go_simp; with_reducible rfl); (· simp only [Act.put, List.setIfInBounds_toArray, List.set_cons_zero, List.set_cons_succ, kw64, kw32]; rfl))
  (refine sB (v := ?_) (a' := ?_) rfl rfl (by rfl) ?_ ?_ ?_; rotate_left 2; (· intro w1 hg; have e26 := pw_cell_below (HO.below.trans hg) d26; have e28 := pw_cell_below (HO.below.trans hg) d28; have e31 := pw_cell_below (HO.below.trans hg) d31; have e35 := pw_cell_below (HO.below.trans hg) d35; go_simp; with_reducible rfl); (· simp only [Act.put, List.setIfInBounds_toArray, List.set_cons_zero, List.set_cons_succ, kw64, kw32]; rfl))
  (refine sB (v := ?_) (a' := ?_) rfl rfl (by rfl) ?_ ?_ ?_; rotate_left 2; (· intro w1 hg; have e26 := pw_cell_below (HO.below.trans hg) d26; have e28 := pw_cell_below (HO.below.trans hg) d28; have e31 := pw_cell_below (HO.below.trans hg) d31; have e35 := pw_cell_below (HO.below.trans hg) d35; go_simp; with_reducible rfl); (· simp only [Act.put, List.setIfInBounds_toArray, List.set_cons_zero, List.set_cons_succ, kw64, kw32]; rfl))
  (refine sB (v := ?_) (a' := ?_) rfl rfl (by rfl) ?_ ?_ ?_; rotate_left 2; (· intro w1 hg; have e26 := pw_cell_below (HO.below.trans hg) d26; have e28 := pw_cell_below (HO.below.trans hg) d28; have e31 := pw_cell_below (HO.below.trans hg) d31; have e35 := pw_cell_below (HO.below.trans hg) d35; go_simp; with_reducible rfl); (· simp only [Act.put, List.setIfInBounds_toArray, List.set_cons_zero, List.set_cons_succ, kw64, kw32]; rfl))
  refine bone (i := 17) (N := none) #[true, true, true, true, true, true, true, true, true, true, true, true, true, true, true, true, true, true, false, false, false, false, false, false] rfl rfl (by kernel_rfl) HBS (fun w1 hg K hK => ?_)
  rw [if_pos (by rfl)]
  replace HO := HO.up hg
  have c0 := HO.cell 0 rfl 8
  have f0 := HO.frozen 0 rfl 8
  go_simp
  refine hK _ _ (in_ds (by decide) (bel_set (by have := HO.ge 0 rfl; exact this))) (fun HBS => ?_)
  replace HO := HO.set' 0 rfl 8 (.string ra) (L' := [(ga, .cells #[.int .i64 0, .int .u64 (a : Int), .int .u64 (b : Int), .int .u64 (c : Int), .string i, .string ba, .int .u64 (sg : Int), .int .u64 (on : Int), .string ra, .int .u64 0, .int .u64 0, .string ⟨#[]⟩, (.slice none 0 0)] 25 (0, 0)), (w.heap.size, .cells #[.int .i64 0, .int .u64 0, .int .u64 0, .int .u64 0, .string ⟨#[]⟩, .string ⟨#[]⟩, .int .u64 0, .int .u64 0, .string ⟨#[]⟩, .int .u64 0, .int .u64 0, .string ⟨#[]⟩, .slice none 0 0] 25 (0, 0))]) rfl
  clear c0 f0 hg K hK
  revert HO HBS
  generalize World.setCell w1 _ _ = wb
  intro HBS HO
  refine bseq (m := 5) (.inl rfl) [(18, true, some 71)] #[true, true, true, true, true, true, true, true, true, true, true, true, true, true, true, true, true, true, true, false, false, false, false, false] HBS (by kernel_rfl) rfl (fun _ _ _ _ _ h => h) ?_
  (refine sP (v := ?_) (a' := ?_) rfl rfl (by rfl) ?_ ?_ ?_; rotate_left 2; (· intro w'; go_simp; with_reducible rfl); (· simp only [Act.put, List.setIfInBounds_toArray, List.set_cons_zero, List.set_cons_succ, kw64, kw32]; rfl))
  refine bone (i := 19) (N := none) #[true, true, true, true, true, true, true, true, true, true, true, true, true, true, true, true, true, true, true, true, false, false, false, false] rfl rfl (by kernel_rfl) HBS (fun w1 hg K hK => ?_)
  rw [if_pos (by rfl)]
  replace HO := HO.up hg
  have c0 := HO.cell 0 rfl 9
  have f0 := HO.frozen 0 rfl 9
  go_simp
  refine hK _ _ (in_ds (by decide) (bel_set (by have := HO.ge 0 rfl; exact this))) (fun HBS => ?_)
  replace HO := HO.set' 0 rfl 9 (.int .u64 (pv : Int)) (L' := [(ga, .cells #[.int .i64 0, .int .u64 (a : Int), .int .u64 (b : Int), .int .u64 (c : Int), .string i, .string ba, .int .u64 (sg : Int), .int .u64 (on : Int), .string ra, .int .u64 (pv : Int), .int .u64 0, .string ⟨#[]⟩, (.slice none 0 0)] 25 (0, 0)), (w.heap.size, .cells #[.int .i64 0, .int .u64 0, .int .u64 0, .int .u64 0, .string ⟨#[]⟩, .string ⟨#[]⟩, .int .u64 0, .int .u64 0, .string ⟨#[]⟩, .int .u64 0, .int .u64 0, .string ⟨#[]⟩, .slice none 0 0] 25 (0, 0))]) rfl
  clear c0 f0 hg K hK
  revert HO HBS
  generalize World.setCell w1 _ _ = wb
  intro HBS HO
  refine bseq (m := 3) (.inl rfl) [(20, true, some 72)] #[true, true, true, true, true, true, true, true, true, true, true, true, true, true, true, true, true, true, true, true, true, false, false, false] HBS (by kernel_rfl) rfl (fun _ _ _ _ _ h => h) ?_
  (refine sP (v := ?_) (a' := ?_) rfl rfl (by rfl) ?_ ?_ ?_; rotate_left 2; (· intro w'; go_simp; with_reducible rfl); (· simp only [Act.put, List.setIfInBounds_toArray, List.set_cons_zero, List.set_cons_succ, kw64, kw32]; rfl))
  refine bone (i := 21) (N := none) #[true, true, true, true, true, true, true, true, true, true, true, true, true, true, true, true, true, true, true, true, true, true, false, false] rfl rfl (by kernel_rfl) HBS (fun w1 hg K hK => ?_)
  rw [if_pos (by rfl)]
  replace HO := HO.up hg
  have c0 := HO.cell 0 rfl 10
  have f0 := HO.frozen 0 rfl 10
  go_simp
  refine hK _ _ (in_ds (by decide) (bel_set (by have := HO.ge 0 rfl; exact this))) (fun HBS => ?_)
  replace HO := HO.set' 0 rfl 10 (.int .u64 (nn : Int)) (L' := [(ga, .cells #[.int .i64 0, .int .u64 (a : Int), .int .u64 (b : Int), .int .u64 (c : Int), .string i, .string ba, .int .u64 (sg : Int), .int .u64 (on : Int), .string ra, .int .u64 (pv : Int), .int .u64 (nn : Int), .string ⟨#[]⟩, (.slice none 0 0)] 25 (0, 0)), (w.heap.size, .cells #[.int .i64 0, .int .u64 0, .int .u64 0, .int .u64 0, .string ⟨#[]⟩, .string ⟨#[]⟩, .int .u64 0, .int .u64 0, .string ⟨#[]⟩, .int .u64 0, .int .u64 0, .string ⟨#[]⟩, .slice none 0 0] 25 (0, 0))]) rfl
  clear c0 f0 hg K hK
  revert HO HBS
  generalize World.setCell w1 _ _ = wb
  intro HBS HO
  refine bseq (m := 1) (.inl rfl) [(22, true, some 73)] #[true, true, true, true, true, true, true, true, true, true, true, true, true, true, true, true, true, true, true, true, true, true, true, false] HBS (by kernel_rfl) rfl (fun _ _ _ _ _ h => h) ?_
  (refine sP (v := ?_) (a' := ?_) rfl rfl (by rfl) ?_ ?_ ?_; rotate_left 2; (· intro w'; go_simp; with_reducible rfl); (· simp only [Act.put, List.setIfInBounds_toArray, List.set_cons_zero, List.set_cons_succ, kw64, kw32]; rfl))
  refine bone (i := 23) (N := none) #[true, true, true, true, true, true, true, true, true, true, true, true, true, true, true, true, true, true, true, true, true, true, true, true] rfl rfl (by kernel_rfl) HBS (fun w1 hg K hK => ?_)
  rw [if_pos (by rfl)]
  replace HO := HO.up hg
  have c0 := HO.cell 0 rfl 11
  have f0 := HO.frozen 0 rfl 11
  go_simp
  refine hK _ _ (in_ds (by decide) (bel_set (by have := HO.ge 0 rfl; exact this))) (fun HBS => ?_)
  replace HO := HO.set' 0 rfl 11 (.string bo) (L' := [(ga, .cells #[.int .i64 0, .int .u64 (a : Int), .int .u64 (b : Int), .int .u64 (c : Int), .string i, .string ba, .int .u64 (sg : Int), .int .u64 (on : Int), .string ra, .int .u64 (pv : Int), .int .u64 (nn : Int), .string bo, (.slice none 0 0)] 25 (0, 0)), (w.heap.size, .cells #[.int .i64 0, .int .u64 0, .int .u64 0, .int .u64 0, .string ⟨#[]⟩, .string ⟨#[]⟩, .int .u64 0, .int .u64 0, .string ⟨#[]⟩, .int .u64 0, .int .u64 0, .string ⟨#[]⟩, .slice none 0 0] 25 (0, 0))]) rfl
  clear c0 f0 hg K hK
  revert HO HBS
  generalize World.setCell w1 _ _ = wb
  intro HBS HO
  refine bdone (by kernel_rfl) (fun w1 hg => ?_)
  replace HO := HO.up hg
  clear hg
  go_wp2_with (first | (refine wpList_load_row rfl 25 (.tmp 3) rfl ga (by rfl) _ #[.int .i64 0, .int .u64 (a : Int), .int .u64 (b : Int), .int .u64 (c : Int), .string i, .string ba, .int .u64 (sg : Int), .int .u64 (on : Int), .string ra, .int .u64 (pv : Int), .int .u64 (nn : Int), .string bo, (.slice none 0 0)] _ _ (HO.blk 0 rfl) Try.underlying25 rfl (by kernel_rfl) ?_) | (refine wpList_store_row rfl 25 (.tmp 2) (.tmp 74) rfl w.heap.size #[.int .i64 0, .int .u64 (a : Int), .int .u64 (b : Int), .int .u64 (c : Int), .string i, .string ba, .int .u64 (sg : Int), .int .u64 (on : Int), .string ra, .int .u64 (pv : Int), .int .u64 (nn : Int), .string bo, (.slice none 0 0)] (by rfl) (by rfl) _ _ (HO.blk 1 rfl) (by kernel_rfl) rfl (frC_one _ _ _ _ _ _ _ _ _ _ _ _ _ _ _) ?_))
  replace HO := HO.setRow 1 rfl #[.int .i64 0, .int .u64 (a : Int), .int .u64 (b : Int), .int .u64 (c : Int), .string i, .string ba, .int .u64 (sg : Int), .int .u64 (on : Int), .string ra, .int .u64 (pv : Int), .int .u64 (nn : Int), .string bo, (.slice none 0 0)] (L' := [(ga, .cells #[.int .i64 0, .int .u64 (a : Int), .int .u64 (b : Int), .int .u64 (c : Int), .string i, .string ba, .int .u64 (sg : Int), .int .u64 (on : Int), .string ra, .int .u64 (pv : Int), .int .u64 (nn : Int), .string bo, (.slice none 0 0)] 25 (0, 0)), (w.heap.size, .cells #[.int .i64 0, .int .u64 (a : Int), .int .u64 (b : Int), .int .u64 (c : Int), .string i, .string ba, .int .u64 (sg : Int), .int .u64 (on : Int), .string ra, .int .u64 (pv : Int), .int .u64 (nn : Int), .string bo, (.slice none 0 0)] 25 (0, 0))]) rfl
  exact bodyPost_ret (v := .agg #[.int .i64 0, .int .u64 (a : Int), .int .u64 (b : Int), .int .u64 (c : Int), .string i, .string ba, .int .u64 (sg : Int), .int .u64 (on : Int), .string ra, .int .u64 (pv : Int), .int .u64 (nn : Int), .string bo, (.slice none 0 0)]) (results_cell_row Try.results27 _ _ w.heap.size 25 _ (0, 0) _ (by rfl) (HO.blk 1 rfl) Try.underlying25 rfl (by kernel_rfl)) rfl ⟨rfl, HO.below⟩
end Go.Proofs.Ytfghjahmnjghgaa

set_option linter.unusedVariables false
set_option linter.unusedSimpArgs false
/- LAYER 8: the frame that parts tell: a later text; keys. -/
namespace Go.Proofs.Ytfghjahmnjghgaa
open Go.RowKit Go.Proofs.YtfghjahmnjghgaaW.PrintWords
theorem Own.grownF {w0 w w1 : World} {L : List (Nat × Obj)} (h : Own w0 L w) {row : Option Nat} (hg : w.grownBy w1 row) (hr : ∀ k, row = some k → w0.heap.size ≤ k ∧ k ∉ L.map (·.1)) : Own w0 L w1 :=
  ⟨h.below.grown hg h.below.size (fun k e => (hr k e).1), fun p hp => by
    have hm := h.mem p hp
    refine ⟨(hg.block p.1 (Array.getElem?_eq_some_iff.1 hm.1).1 (fun e => ?_)).trans hm.1, hm.2⟩
    exact (hr p.1 e.symm).2 (List.mem_map.2 ⟨p, hp, rfl⟩), h.nd⟩
theorem R_OutCF {α : Type} {d : Kd α} {e base : Nat} {ok : Nat → Prop} {w : World} {v : Value} {xs : List α} (h : d.R e w base ok v xs) : Out d w v xs := by
  obtain ⟨_, inner, ho, hr⟩ := h
  have hn : xs.length = xs.length := rfl
  obtain ⟨A, c, he, hc⟩ := own_reads_row ho (hr.imp_ (fun _ _ hp => d.K_of_M hp)) rfl
  refine ⟨A, c, he, ?_, ?_, hc⟩
  all_goals
    rcases ho.2 with ⟨e1, h0⟩ | ⟨g, cap, cur, e1, _, _, h2, h3, _⟩
    · rw [e1] at he; injection he with _ _ he; subst he; omega
    · rw [e1] at he; injection he with _ _ he; subst he; simp only [maxLen] at h3; omega
theorem outRowF {w : World} {base e n : Nat} {v : Value} {xs : List ByteArray} (h : w.ownsRow base e 1 v n (xs.map Value.string)) (hn : xs.length = n) : Out Kd.string w v xs := by
  subst hn
  have h0 : ∀ x : ByteArray, (Value.string x).oneCell' = true := fun _ => rfl
  have hR : (Kd.scalar Value.string h0).R e w base (fun _ => True) v xs := Kd.R_of_own (by simpa [encs] using h) (fun _ _ => trivial)
  exact R_OutCF hR
theorem own_sliceF {W : World} {base e n : Nat} {v : Value} {xs : List Value} (h : W.ownsRow base e 1 v (n + 1) xs)   : ∃ g cap, v = .slice (some ⟨g, 0, none⟩) (n + 1) cap ∧ base ≤ g := by
  rcases h.2 with ⟨_, h0⟩ | ⟨g, cap, cur, rfl, hb, _⟩
  · omega
  · exact ⟨g, cap, rfl, hb⟩
theorem own_shapeF {W : World} {base e n : Nat} {v : Value} {xs : List Value} (h : W.ownsRow base e 1 v n xs) : ∃ A cap, v = .slice A n cap := by
  rcases h.2 with ⟨rfl, h0⟩ | ⟨g, cap, cur, rfl, hb, _⟩
  · exact ⟨none, 0, by rw [h0]⟩
  · exact ⟨_, cap, rfl⟩
theorem info_strF : (Try.prog.info? 9).map (fun i => (i.zero, i.size, i.bytes)) = some (some (.string ⟨#[]⟩), 1, 16) := by kernel_rfl
attribute [local irreducible] Calls
set_option maxHeartbeats 8000000 in
set_option maxRecDepth 100000 in
theorem of_later (A : Option Addr) (cp : Nat) (a b c : Nat) (ra : ByteArray) (pv nn : Nat) (bo : ByteArray) (w : World) (hC : Kd.C kP w A 8 [numP 1, numP a, numP b, numP c, txtP ra, numP pv, numP nn, txtP bo]) (hcp : 8 ≤ cp) :
    Calls Try.prog 27 #[.slice A 8 cp] w fun e w' => e = .returned (.agg (frC 1 a b c ⟨#[]⟩ ⟨#[]⟩ 0 0 ra pv nn bo (.slice none 0 0))) ∧ Below w.heap.size w w' := by
  obtain ⟨bk, o, rfl, hcell, _⟩ := kP_cells hC (by decide)
  have d1 : w.cell? ⟨bk, o + 1, none⟩ = some (.int .u64 1) := (hcell 0 _ rfl).2.1
  have d4 : w.cell? ⟨bk, o + 4, none⟩ = some (.int .u64 (a : Int)) := (hcell 1 _ rfl).2.1
  have d7 : w.cell? ⟨bk, o + 7, none⟩ = some (.int .u64 (b : Int)) := (hcell 2 _ rfl).2.1
  have d10 : w.cell? ⟨bk, o + 10, none⟩ = some (.int .u64 (c : Int)) := (hcell 3 _ rfl).2.1
  have d14 : w.cell? ⟨bk, o + 14, none⟩ = some (.string ra) := (hcell 4 _ rfl).2.2
  have d16 : w.cell? ⟨bk, o + 16, none⟩ = some (.int .u64 (pv : Int)) := (hcell 5 _ rfl).2.1
  have d19 : w.cell? ⟨bk, o + 19, none⟩ = some (.int .u64 (nn : Int)) := (hcell 6 _ rfl).2.1
  have d23 : w.cell? ⟨bk, o + 23, none⟩ = some (.string bo) := (hcell 7 _ rfl).2.2
  clear hC hcell
  have HO := (Own.start w).alloc' (.cells #[.int .i64 0, .int .u64 0, .int .u64 0, .int .u64 0, .string ⟨#[]⟩, .string ⟨#[]⟩, .int .u64 0, .int .u64 0, .string ⟨#[]⟩, .int .u64 0, .int .u64 0, .string ⟨#[]⟩, .slice none 0 0] 25) rfl
  go_enter Try.func27, Try.ntmps27
  go_wp2_with fail
  refine bstart (fun w => w.heap.size) (n := 20) (ds := [19]) #[false, false, false, false, false, false, false, false, false, false, false, false, false, false, false, false, false, false, false, false] (by kernel_rfl) rfl rfl (Nat.le_refl _) (fun HBS => ?_)
  refine bseq (m := 2) (.inl rfl) [(0, true, some 6), (1, true, some 7), (2, true, some 8), (5, true, some 11), (6, true, some 12), (7, true, some 13), (9, true, some 15), (10, true, some 16), (11, true, some 17), (13, true, some 19), (14, true, some 20), (15, true, some 21), (3, true, some 9), (4, true, some 10), (8, true, some 14), (12, true, some 18), (16, true, some 22), (17, true, some 23)] #[true, true, true, true, true, true, true, true, true, true, true, true, true, true, true, true, true, true, false, false] HBS (by kernel_rfl) rfl (fun _ _ _ _ _ h => h) ?_
  (refine sP (v := ?_) (a' := ?_) rfl rfl (by rfl) ?_ ?_ ?_; rotate_left 2; (· intro w'; go_simp; with_reducible rfl); (· simp only [Act.put, List.setIfInBounds_toArray, List.set_cons_zero, List.set_cons_succ, kw64, kw32]; rfl))
  (refine sP (v := ?_) (a' := ?_) rfl rfl (by rfl) ?_ ?_ ?_; rotate_left 2; (· intro w'; go_simp; with_reducible rfl); (· simp only [Act.put, List.setIfInBounds_toArray, List.set_cons_zero, List.set_cons_succ, kw64, kw32]; rfl))
  (refine sP (v := ?_) (a' := ?_) rfl rfl (by rfl) ?_ ?_ ?_; rotate_left 2; (· intro w'; go_simp; with_reducible rfl); (· simp only [Act.put, List.setIfInBounds_toArray, List.set_cons_zero, List.set_cons_succ, kw64, kw32]; rfl))
  (refine sP (v := ?_) (a' := ?_) rfl rfl (by rfl) ?_ ?_ ?_; rotate_left 2; (· intro w'; go_simp; with_reducible rfl); (· simp only [Act.put, List.setIfInBounds_toArray, List.set_cons_zero, List.set_cons_succ, kw64, kw32]; rfl))
  (refine sP (v := ?_) (a' := ?_) rfl rfl (by rfl) ?_ ?_ ?_; rotate_left 2; (· intro w'; go_simp; with_reducible rfl); (· simp only [Act.put, List.setIfInBounds_toArray, List.set_cons_zero, List.set_cons_succ, kw64, kw32]; rfl))
  (refine sP (v := ?_) (a' := ?_) rfl rfl (by rfl) ?_ ?_ ?_; rotate_left 2; (· intro w'; go_simp; with_reducible rfl); (· simp only [Act.put, List.setIfInBounds_toArray, List.set_cons_zero, List.set_cons_succ, kw64, kw32]; rfl))
  (refine sP (v := ?_) (a' := ?_) rfl rfl (by rfl) ?_ ?_ ?_; rotate_left 2; (· intro w'; go_simp; with_reducible rfl); (· simp only [Act.put, List.setIfInBounds_toArray, List.set_cons_zero, List.set_cons_succ, kw64, kw32]; rfl))
  (refine sP (v := ?_) (a' := ?_) rfl rfl (by rfl) ?_ ?_ ?_; rotate_left 2; (· intro w'; go_simp; with_reducible rfl); (· simp only [Act.put, List.setIfInBounds_toArray, List.set_cons_zero, List.set_cons_succ, kw64, kw32]; rfl))
  (refine sP (v := ?_) (a' := ?_) rfl rfl (by rfl) ?_ ?_ ?_; rotate_left 2; (· intro w'; go_simp; with_reducible rfl); (· simp only [Act.put, List.setIfInBounds_toArray, List.set_cons_zero, List.set_cons_succ, kw64, kw32]; rfl))
  (refine sP (v := ?_) (a' := ?_) rfl rfl (by rfl) ?_ ?_ ?_; rotate_left 2; (· intro w'; go_simp; with_reducible rfl); (· simp only [Act.put, List.setIfInBounds_toArray, List.set_cons_zero, List.set_cons_succ, kw64, kw32]; rfl))
  (refine sP (v := ?_) (a' := ?_) rfl rfl (by rfl) ?_ ?_ ?_; rotate_left 2; (· intro w'; go_simp; with_reducible rfl); (· simp only [Act.put, List.setIfInBounds_toArray, List.set_cons_zero, List.set_cons_succ, kw64, kw32]; rfl))
  (refine sP (v := ?_) (a' := ?_) rfl rfl (by rfl) ?_ ?_ ?_; rotate_left 2; (· intro w'; go_simp; with_reducible rfl); (· simp only [Act.put, List.setIfInBounds_toArray, List.set_cons_zero, List.set_cons_succ, kw64, kw32]; rfl))
  (refine sB (v := ?_) (a' := ?_) rfl rfl (by rfl) ?_ ?_ ?_; rotate_left 2; (· intro w1 hg; have e1 := pw_cell_below (HO.up hg).below d1; have e4 := pw_cell_below (HO.up hg).below d4; have e7 := pw_cell_below (HO.up hg).below d7; have e10 := pw_cell_below (HO.up hg).below d10; go_simp; with_reducible rfl); (· simp only [Act.put, List.setIfInBounds_toArray, List.set_cons_zero, List.set_cons_succ, kw64, kw32]; rfl))
  (refine sP (v := .int .i64 1) (a' := ?_) rfl rfl (by rfl) ?_ ?_ ?_; rotate_left 1; (· intro w'; go_simp; try rfl); (· simp only [Act.put, List.setIfInBounds_toArray, List.set_cons_zero, List.set_cons_succ, kw64, kw32]; rfl))
  (refine sB (v := ?_) (a' := ?_) rfl rfl (by rfl) ?_ ?_ ?_; rotate_left 2; (· intro w1 hg; have e1 := pw_cell_below (HO.up hg).below d1; have e4 := pw_cell_below (HO.up hg).below d4; have e7 := pw_cell_below (HO.up hg).below d7; have e10 := pw_cell_below (HO.up hg).below d10; go_simp; with_reducible rfl); (· simp only [Act.put, List.setIfInBounds_toArray, List.set_cons_zero, List.set_cons_succ, kw64, kw32]; rfl))
  (refine sB (v := ?_) (a' := ?_) rfl rfl (by rfl) ?_ ?_ ?_; rotate_left 2; (· intro w1 hg; have e1 := pw_cell_below (HO.up hg).below d1; have e4 := pw_cell_below (HO.up hg).below d4; have e7 := pw_cell_below (HO.up hg).below d7; have e10 := pw_cell_below (HO.up hg).below d10; go_simp; with_reducible rfl); (· simp only [Act.put, List.setIfInBounds_toArray, List.set_cons_zero, List.set_cons_succ, kw64, kw32]; rfl))
  (refine sB (v := ?_) (a' := ?_) rfl rfl (by rfl) ?_ ?_ ?_; rotate_left 2; (· intro w1 hg; have e1 := pw_cell_below (HO.up hg).below d1; have e4 := pw_cell_below (HO.up hg).below d4; have e7 := pw_cell_below (HO.up hg).below d7; have e10 := pw_cell_below (HO.up hg).below d10; go_simp; with_reducible rfl); (· simp only [Act.put, List.setIfInBounds_toArray, List.set_cons_zero, List.set_cons_succ, kw64, kw32]; rfl))
  (refine sP (v := ?_) (a' := ?_) rfl rfl (by rfl) ?_ ?_ ?_; rotate_left 2; (· intro w'; go_simp; with_reducible rfl); (· simp only [Act.put, List.setIfInBounds_toArray, List.set_cons_zero, List.set_cons_succ, kw64, kw32]; rfl))
  refine bone (i := 18) (N := (some 3)) #[true, true, true, true, true, true, true, true, true, true, true, true, true, true, true, true, true, true, true, false] rfl rfl (by kernel_rfl) HBS (fun w1 hg K hK => ?_)
  rw [if_pos (by rfl)]
  replace HO := HO.up hg
  have hz := HO.lt 0 rfl
  go_simp
  refine hK _ _ (not_ds (by decide) (below_alloc (Below.refl _ _) _)) (fun HBS => ?_)
  replace HO := HO.alloc (.cells #[.int .i64 0, .int .u64 0, .int .u64 0, .int .u64 0, .string ⟨#[]⟩, .string ⟨#[]⟩, .int .u64 0, .int .u64 0, .string ⟨#[]⟩, .int .u64 0, .int .u64 0, .string ⟨#[]⟩, .slice none 0 0] 25)
  have hga := Below.size hg
  clear hg K hK hz
  generalize w1.alloc (.cells #[.int .i64 0, .int .u64 0, .int .u64 0, .int .u64 0, .string ⟨#[]⟩, .string ⟨#[]⟩, .int .u64 0, .int .u64 0, .string ⟨#[]⟩, .int .u64 0, .int .u64 0, .string ⟨#[]⟩, .slice none 0 0] 25) = wa at *
  generalize w1.heap.size = ga at *
  refine bone (i := 19) (N := none) #[true, true, true, true, true, true, true, true, true, true, true, true, true, true, true, true, true, true, true, true] rfl rfl (by kernel_rfl) HBS (fun w1 hg K hK => ?_)
  rw [if_pos (by rfl)]
  replace HO := HO.up hg
  refine wp_store_row 25 (.tmp 3) (.tmp 23) rfl ga #[.int .i64 1, .int .u64 (a : Int), .int .u64 (b : Int), .int .u64 (c : Int), .string ⟨#[]⟩, .string ⟨#[]⟩, .int .u64 0, .int .u64 0, .string ⟨#[]⟩, .int .u64 0, .int .u64 0, .string ⟨#[]⟩, (.slice none 0 0)] (by rfl) (by rfl) _ _ (HO.blk 0 rfl) (by kernel_rfl) rfl (frC_one _ _ _ _ _ _ _ _ _ _ _ _ _ _ _) ?_
  refine hK _ _ (in_ds (by decide) (bel_setRow (by omega) _)) (fun HBS => ?_)
  replace HO := HO.setRow 0 rfl #[.int .i64 1, .int .u64 (a : Int), .int .u64 (b : Int), .int .u64 (c : Int), .string ⟨#[]⟩, .string ⟨#[]⟩, .int .u64 0, .int .u64 0, .string ⟨#[]⟩, .int .u64 0, .int .u64 0, .string ⟨#[]⟩, (.slice none 0 0)] (L' := [(ga, .cells #[.int .i64 1, .int .u64 (a : Int), .int .u64 (b : Int), .int .u64 (c : Int), .string ⟨#[]⟩, .string ⟨#[]⟩, .int .u64 0, .int .u64 0, .string ⟨#[]⟩, .int .u64 0, .int .u64 0, .string ⟨#[]⟩, (.slice none 0 0)] 25 (0, 0)), (w.heap.size, .cells #[.int .i64 0, .int .u64 0, .int .u64 0, .int .u64 0, .string ⟨#[]⟩, .string ⟨#[]⟩, .int .u64 0, .int .u64 0, .string ⟨#[]⟩, .int .u64 0, .int .u64 0, .string ⟨#[]⟩, .slice none 0 0] 25 (0, 0))]) rfl
  clear hg K hK
  revert HO HBS
  generalize World.setRow w1 _ _ = wb
  intro HBS HO
  refine bdone (by kernel_rfl) (fun w1 hg => ?_)
  replace HO := HO.up hg
  clear hg
  have c0 := HO.cell 0 rfl 0
  go_wp2_with fail
  clear c0
  refine bstart (fun _ => w.heap.size) (n := 24) (ds := [17, 19, 21, 23]) #[false, false, false, false, false, false, false, false, false, false, false, false, false, false, false, false, false, false, false, false, false, false, false, false] (by kernel_rfl) rfl rfl HO.below.size (fun HBS => ?_)
  refine bseq (m := 7) (.inl rfl) [(0, true, some 54), (1, true, some 55), (2, true, some 56), (4, true, some 58), (5, true, some 59), (6, true, some 60), (8, true, some 62), (9, true, some 63), (10, true, some 64), (12, true, some 66), (13, true, some 67), (14, true, some 68), (3, true, some 57), (16, true, some 70), (7, true, some 61), (11, true, some 65), (15, true, some 69)] #[true, true, true, true, true, true, true, true, true, true, true, true, true, true, true, true, true, false, false, false, false, false, false, false] HBS (by kernel_rfl) rfl (fun _ _ _ _ _ h => h) ?_
  (refine sP (v := ?_) (a' := ?_) rfl rfl (by rfl) ?_ ?_ ?_; rotate_left 2; (· intro w'; go_simp; with_reducible rfl); (· simp only [Act.put, List.setIfInBounds_toArray, List.set_cons_zero, List.set_cons_succ, kw64, kw32]; rfl))
  (refine sP (v := ?_) (a' := ?_) rfl rfl (by rfl) ?_ ?_ ?_; rotate_left 2; (· intro w'; go_simp; with_reducible rfl); (· simp only [Act.put, List.setIfInBounds_toArray, List.set_cons_zero, List.set_cons_succ, kw64, kw32]; rfl))
  (refine sP (v := ?_) (a' := ?_) rfl rfl (by rfl) ?_ ?_ ?_; rotate_left 2; (· intro w'; go_simp; with_reducible rfl); (· simp only [Act.put, List.setIfInBounds_toArray, List.set_cons_zero, List.set_cons_succ, kw64, kw32]; rfl))
  (refine sP (v := ?_) (a' := ?_) rfl rfl (by rfl) ?_ ?_ ?_; rotate_left 2; (· intro w'; go_simp; with_reducible rfl); (· simp only [Act.put, List.setIfInBounds_toArray, List.set_cons_zero, List.set_cons_succ, kw64, kw32]; rfl))
  (refine sP (v := ?_) (a' := ?_) rfl rfl (by rfl) ?_ ?_ ?_; rotate_left 2; (· intro w'; go_simp; with_reducible rfl); (· simp only [Act.put, List.setIfInBounds_toArray, List.set_cons_zero, List.set_cons_succ, kw64, kw32]; rfl))
  (refine sP (v := ?_) (a' := ?_) rfl rfl (by rfl) ?_ ?_ ?_; rotate_left 2; (· intro w'; go_simp; with_reducible rfl); (· simp only [Act.put, List.setIfInBounds_toArray, List.set_cons_zero, List.set_cons_succ, kw64, kw32]; rfl))
  (refine sP (v := ?_) (a' := ?_) rfl rfl (by rfl) ?_ ?_ ?_; rotate_left 2; (· intro w'; go_simp; with_reducible rfl); (· simp only [Act.put, List.setIfInBounds_toArray, List.set_cons_zero, List.set_cons_succ, kw64, kw32]; rfl))
  (refine sP (v := ?_) (a' := ?_) rfl rfl (by rfl) ?_ ?_ ?_; rotate_left 2; (· intro w'; go_simp; with_reducible rfl); (· simp only [Act.put, List.setIfInBounds_toArray, List.set_cons_zero, List.set_cons_succ, kw64, kw32]; rfl))
  (refine sP (v := ?_) (a' := ?_) rfl rfl (by rfl) ?_ ?_ ?_; rotate_left 2; (· intro w'; go_simp; with_reducible rfl); (· simp only [Act.put, List.setIfInBounds_toArray, List.set_cons_zero, List.set_cons_succ, kw64, kw32]; rfl))
  (refine sP (v := ?_) (a' := ?_) rfl rfl (by rfl) ?_ ?_ ?_; rotate_left 2; (· intro w'; go_simp; with_reducible rfl); (· simp only [Act.put, List.setIfInBounds_toArray, List.set_cons_zero, List.set_cons_succ, kw64, kw32]; rfl))
  (refine sP (v := ?_) (a' := ?_) rfl rfl (by rfl) ?_ ?_ ?_; rotate_left 2; (· intro w'; go_simp; with_reducible rfl); (· simp only [Act.put, List.setIfInBounds_toArray, List.set_cons_zero, List.set_cons_succ, kw64, kw32]; rfl))
  (refine sP (v := ?_) (a' := ?_) rfl rfl (by rfl) ?_ ?_ ?_; rotate_left 2; (· intro w'; go_simp; with_reducible rfl); (· simp only [Act.put, List.setIfInBounds_toArray, List.set_cons_zero, List.set_cons_succ, kw64, kw32]; rfl))
  (refine sB (v := ?_) (a' := ?_) rfl rfl (by rfl) ?_ ?_ ?_; rotate_left 2; (· intro w1 hg; have e14 := pw_cell_below (HO.below.trans hg) d14; have e16 := pw_cell_below (HO.below.trans hg) d16; have e19 := pw_cell_below (HO.below.trans hg) d19; have e23 := pw_cell_below (HO.below.trans hg) d23; go_simp; with_reducible rfl); (· simp only [Act.put, List.setIfInBounds_toArray, List.set_cons_zero, List.set_cons_succ, kw64, kw32]; rfl))
  (refine sP (v := ?_) (a' := ?_) rfl rfl (by rfl) ?_ ?_ ?_; rotate_left 2; (· intro w'; go_simp; with_reducible rfl); (· simp only [Act.put, List.setIfInBounds_toArray, List.set_cons_zero, List.set_cons_succ, kw64, kw32]; rfl))
  (refine sB (v := ?_) (a' := ?_) rfl rfl (by rfl) ?_ ?_ ?_; rotate_left 2; (· intro w1 hg; have e14 := pw_cell_below (HO.below.trans hg) d14; have e16 := pw_cell_below (HO.below.trans hg) d16; have e19 := pw_cell_below (HO.below.trans hg) d19; have e23 := pw_cell_below (HO.below.trans hg) d23; go_simp; with_reducible rfl); (· simp only [Act.put, List.setIfInBounds_toArray, List.set_cons_zero, List.set_cons_succ, kw64, kw32]; rfl))
  (refine sB (v := ?_) (a' := ?_) rfl rfl (by rfl) ?_ ?_ ?_; rotate_left 2; (· intro w1 hg; have e14 := pw_cell_below (HO.below.trans hg) d14; have e16 := pw_cell_below (HO.below.trans hg) d16; have e19 := pw_cell_below (HO.below.trans hg) d19; have e23 := pw_cell_below (HO.below.trans hg) d23; go_simp; with_reducible rfl); (· simp only [Act.put, List.setIfInBounds_toArray, List.set_cons_zero, List.set_cons_succ, kw64, kw32]; rfl))
  (refine sB (v := ?_) (a' := ?_) rfl rfl (by rfl) ?_ ?_ ?_; rotate_left 2; (· intro w1 hg; have e14 := pw_cell_below (HO.below.trans hg) d14; have e16 := pw_cell_below (HO.below.trans hg) d16; have e19 := pw_cell_below (HO.below.trans hg) d19; have e23 := pw_cell_below (HO.below.trans hg) d23; go_simp; with_reducible rfl); (· simp only [Act.put, List.setIfInBounds_toArray, List.set_cons_zero, List.set_cons_succ, kw64, kw32]; rfl))
  refine bone (i := 17) (N := none) #[true, true, true, true, true, true, true, true, true, true, true, true, true, true, true, true, true, true, false, false, false, false, false, false] rfl rfl (by kernel_rfl) HBS (fun w1 hg K hK => ?_)
  rw [if_pos (by rfl)]
  replace HO := HO.up hg
  have c0 := HO.cell 0 rfl 8
  have f0 := HO.frozen 0 rfl 8
  go_simp
  refine hK _ _ (in_ds (by decide) (bel_set (by have := HO.ge 0 rfl; exact this))) (fun HBS => ?_)
  replace HO := HO.set' 0 rfl 8 (.string ra) (L' := [(ga, .cells #[.int .i64 1, .int .u64 (a : Int), .int .u64 (b : Int), .int .u64 (c : Int), .string ⟨#[]⟩, .string ⟨#[]⟩, .int .u64 0, .int .u64 0, .string ra, .int .u64 0, .int .u64 0, .string ⟨#[]⟩, (.slice none 0 0)] 25 (0, 0)), (w.heap.size, .cells #[.int .i64 0, .int .u64 0, .int .u64 0, .int .u64 0, .string ⟨#[]⟩, .string ⟨#[]⟩, .int .u64 0, .int .u64 0, .string ⟨#[]⟩, .int .u64 0, .int .u64 0, .string ⟨#[]⟩, .slice none 0 0] 25 (0, 0))]) rfl
  clear c0 f0 hg K hK
  revert HO HBS
  generalize World.setCell w1 _ _ = wb
  intro HBS HO
  refine bseq (m := 5) (.inl rfl) [(18, true, some 71)] #[true, true, true, true, true, true, true, true, true, true, true, true, true, true, true, true, true, true, true, false, false, false, false, false] HBS (by kernel_rfl) rfl (fun _ _ _ _ _ h => h) ?_
  (refine sP (v := ?_) (a' := ?_) rfl rfl (by rfl) ?_ ?_ ?_; rotate_left 2; (· intro w'; go_simp; with_reducible rfl); (· simp only [Act.put, List.setIfInBounds_toArray, List.set_cons_zero, List.set_cons_succ, kw64, kw32]; rfl))
  refine bone (i := 19) (N := none) #[true, true, true, true, true, true, true, true, true, true, true, true, true, true, true, true, true, true, true, true, false, false, false, false] rfl rfl (by kernel_rfl) HBS (fun w1 hg K hK => ?_)
  rw [if_pos (by rfl)]
  replace HO := HO.up hg
  have c0 := HO.cell 0 rfl 9
  have f0 := HO.frozen 0 rfl 9
  go_simp
  refine hK _ _ (in_ds (by decide) (bel_set (by have := HO.ge 0 rfl; exact this))) (fun HBS => ?_)
  replace HO := HO.set' 0 rfl 9 (.int .u64 (pv : Int)) (L' := [(ga, .cells #[.int .i64 1, .int .u64 (a : Int), .int .u64 (b : Int), .int .u64 (c : Int), .string ⟨#[]⟩, .string ⟨#[]⟩, .int .u64 0, .int .u64 0, .string ra, .int .u64 (pv : Int), .int .u64 0, .string ⟨#[]⟩, (.slice none 0 0)] 25 (0, 0)), (w.heap.size, .cells #[.int .i64 0, .int .u64 0, .int .u64 0, .int .u64 0, .string ⟨#[]⟩, .string ⟨#[]⟩, .int .u64 0, .int .u64 0, .string ⟨#[]⟩, .int .u64 0, .int .u64 0, .string ⟨#[]⟩, .slice none 0 0] 25 (0, 0))]) rfl
  clear c0 f0 hg K hK
  revert HO HBS
  generalize World.setCell w1 _ _ = wb
  intro HBS HO
  refine bseq (m := 3) (.inl rfl) [(20, true, some 72)] #[true, true, true, true, true, true, true, true, true, true, true, true, true, true, true, true, true, true, true, true, true, false, false, false] HBS (by kernel_rfl) rfl (fun _ _ _ _ _ h => h) ?_
  (refine sP (v := ?_) (a' := ?_) rfl rfl (by rfl) ?_ ?_ ?_; rotate_left 2; (· intro w'; go_simp; with_reducible rfl); (· simp only [Act.put, List.setIfInBounds_toArray, List.set_cons_zero, List.set_cons_succ, kw64, kw32]; rfl))
  refine bone (i := 21) (N := none) #[true, true, true, true, true, true, true, true, true, true, true, true, true, true, true, true, true, true, true, true, true, true, false, false] rfl rfl (by kernel_rfl) HBS (fun w1 hg K hK => ?_)
  rw [if_pos (by rfl)]
  replace HO := HO.up hg
  have c0 := HO.cell 0 rfl 10
  have f0 := HO.frozen 0 rfl 10
  go_simp
  refine hK _ _ (in_ds (by decide) (bel_set (by have := HO.ge 0 rfl; exact this))) (fun HBS => ?_)
  replace HO := HO.set' 0 rfl 10 (.int .u64 (nn : Int)) (L' := [(ga, .cells #[.int .i64 1, .int .u64 (a : Int), .int .u64 (b : Int), .int .u64 (c : Int), .string ⟨#[]⟩, .string ⟨#[]⟩, .int .u64 0, .int .u64 0, .string ra, .int .u64 (pv : Int), .int .u64 (nn : Int), .string ⟨#[]⟩, (.slice none 0 0)] 25 (0, 0)), (w.heap.size, .cells #[.int .i64 0, .int .u64 0, .int .u64 0, .int .u64 0, .string ⟨#[]⟩, .string ⟨#[]⟩, .int .u64 0, .int .u64 0, .string ⟨#[]⟩, .int .u64 0, .int .u64 0, .string ⟨#[]⟩, .slice none 0 0] 25 (0, 0))]) rfl
  clear c0 f0 hg K hK
  revert HO HBS
  generalize World.setCell w1 _ _ = wb
  intro HBS HO
  refine bseq (m := 1) (.inl rfl) [(22, true, some 73)] #[true, true, true, true, true, true, true, true, true, true, true, true, true, true, true, true, true, true, true, true, true, true, true, false] HBS (by kernel_rfl) rfl (fun _ _ _ _ _ h => h) ?_
  (refine sP (v := ?_) (a' := ?_) rfl rfl (by rfl) ?_ ?_ ?_; rotate_left 2; (· intro w'; go_simp; with_reducible rfl); (· simp only [Act.put, List.setIfInBounds_toArray, List.set_cons_zero, List.set_cons_succ, kw64, kw32]; rfl))
  refine bone (i := 23) (N := none) #[true, true, true, true, true, true, true, true, true, true, true, true, true, true, true, true, true, true, true, true, true, true, true, true] rfl rfl (by kernel_rfl) HBS (fun w1 hg K hK => ?_)
  rw [if_pos (by rfl)]
  replace HO := HO.up hg
  have c0 := HO.cell 0 rfl 11
  have f0 := HO.frozen 0 rfl 11
  go_simp
  refine hK _ _ (in_ds (by decide) (bel_set (by have := HO.ge 0 rfl; exact this))) (fun HBS => ?_)
  replace HO := HO.set' 0 rfl 11 (.string bo) (L' := [(ga, .cells #[.int .i64 1, .int .u64 (a : Int), .int .u64 (b : Int), .int .u64 (c : Int), .string ⟨#[]⟩, .string ⟨#[]⟩, .int .u64 0, .int .u64 0, .string ra, .int .u64 (pv : Int), .int .u64 (nn : Int), .string bo, (.slice none 0 0)] 25 (0, 0)), (w.heap.size, .cells #[.int .i64 0, .int .u64 0, .int .u64 0, .int .u64 0, .string ⟨#[]⟩, .string ⟨#[]⟩, .int .u64 0, .int .u64 0, .string ⟨#[]⟩, .int .u64 0, .int .u64 0, .string ⟨#[]⟩, .slice none 0 0] 25 (0, 0))]) rfl
  clear c0 f0 hg K hK
  revert HO HBS
  generalize World.setCell w1 _ _ = wb
  intro HBS HO
  refine bdone (by kernel_rfl) (fun w1 hg => ?_)
  replace HO := HO.up hg
  clear hg
  go_wp2_with (first | (refine wpList_load_row rfl 25 (.tmp 3) rfl ga (by rfl) _ #[.int .i64 1, .int .u64 (a : Int), .int .u64 (b : Int), .int .u64 (c : Int), .string ⟨#[]⟩, .string ⟨#[]⟩, .int .u64 0, .int .u64 0, .string ra, .int .u64 (pv : Int), .int .u64 (nn : Int), .string bo, (.slice none 0 0)] _ _ (HO.blk 0 rfl) Try.underlying25 rfl (by kernel_rfl) ?_) | (refine wpList_store_row rfl 25 (.tmp 2) (.tmp 74) rfl w.heap.size #[.int .i64 1, .int .u64 (a : Int), .int .u64 (b : Int), .int .u64 (c : Int), .string ⟨#[]⟩, .string ⟨#[]⟩, .int .u64 0, .int .u64 0, .string ra, .int .u64 (pv : Int), .int .u64 (nn : Int), .string bo, (.slice none 0 0)] (by rfl) (by rfl) _ _ (HO.blk 1 rfl) (by kernel_rfl) rfl (frC_one _ _ _ _ _ _ _ _ _ _ _ _ _ _ _) ?_))
  replace HO := HO.setRow 1 rfl #[.int .i64 1, .int .u64 (a : Int), .int .u64 (b : Int), .int .u64 (c : Int), .string ⟨#[]⟩, .string ⟨#[]⟩, .int .u64 0, .int .u64 0, .string ra, .int .u64 (pv : Int), .int .u64 (nn : Int), .string bo, (.slice none 0 0)] (L' := [(ga, .cells #[.int .i64 1, .int .u64 (a : Int), .int .u64 (b : Int), .int .u64 (c : Int), .string ⟨#[]⟩, .string ⟨#[]⟩, .int .u64 0, .int .u64 0, .string ra, .int .u64 (pv : Int), .int .u64 (nn : Int), .string bo, (.slice none 0 0)] 25 (0, 0)), (w.heap.size, .cells #[.int .i64 1, .int .u64 (a : Int), .int .u64 (b : Int), .int .u64 (c : Int), .string ⟨#[]⟩, .string ⟨#[]⟩, .int .u64 0, .int .u64 0, .string ra, .int .u64 (pv : Int), .int .u64 (nn : Int), .string bo, (.slice none 0 0)] 25 (0, 0))]) rfl
  exact bodyPost_ret (v := .agg #[.int .i64 1, .int .u64 (a : Int), .int .u64 (b : Int), .int .u64 (c : Int), .string ⟨#[]⟩, .string ⟨#[]⟩, .int .u64 0, .int .u64 0, .string ra, .int .u64 (pv : Int), .int .u64 (nn : Int), .string bo, (.slice none 0 0)]) (results_cell_row Try.results27 _ _ w.heap.size 25 _ (0, 0) _ (by rfl) (HO.blk 1 rfl) Try.underlying25 rfl (by kernel_rfl)) rfl ⟨rfl, HO.below⟩
/-- a frame of keys, as parts -/
def keyP (a b c : Nat) (ks : List ByteArray) : List PartD := [numP 2, numP a, numP b, numP c, numP ks.length] ++ ks.map txtP
set_option maxHeartbeats 8000000 in
set_option maxRecDepth 100000 in
theorem of_keys (A : Option Addr) (cp : Nat) (a b c : Nat) (ks : List ByteArray) (w : World) (hC : Kd.C kP w A (ks.length + 5) (keyP a b c ks)) (hcp : ks.length + 5 ≤ cp) (hks : ks.length ≤ 1000000) :
    Calls Try.prog 27 #[.slice A (ks.length + 5) cp] w fun e w' => (∃ v, e = .returned (.agg (frC 2 a b c ⟨#[]⟩ ⟨#[]⟩ 0 0 ⟨#[]⟩ 0 0 ⟨#[]⟩ v)) ∧ Out Kd.string w' v ks) ∧ Below w.heap.size w w' := by
  obtain ⟨bk, o, rfl, hcell, hbk⟩ := kP_cells hC (by omega)
  have d1 : w.cell? ⟨bk, o + 1, none⟩ = some (.int .u64 2) := (hcell 0 _ rfl).2.1
  have d4 : w.cell? ⟨bk, o + 4, none⟩ = some (.int .u64 (a : Int)) := (hcell 1 _ rfl).2.1
  have d7 : w.cell? ⟨bk, o + 7, none⟩ = some (.int .u64 (b : Int)) := (hcell 2 _ rfl).2.1
  have d10 : w.cell? ⟨bk, o + 10, none⟩ = some (.int .u64 (c : Int)) := (hcell 3 _ rfl).2.1
  have hkey : ∀ j k, ks[j]? = some k → w.cell? ⟨bk, o + 15 + j * 3, none⟩ = some (.bool true) ∧ w.cell? ⟨bk, o + 15 + j * 3 + 1, none⟩ = some (.int .u64 0) ∧ w.cell? ⟨bk, o + 15 + j * 3 + 2, none⟩ = some (.string k) := fun j k hj => by
    have := hcell (5 + j) (txtP k) (by
      unfold keyP
      rw [List.getElem?_append_right (by simp)]
      simp [hj])
    rw [show o + (5 + j) * 3 = o + 15 + j * 3 by omega] at this
    exact this
  have HKY := Lib.hid hkey
  clear hC hcell hkey
  obtain ⟨n, hn⟩ : ∃ n, n = ks.length := ⟨_, rfl⟩
  have HN := Lib.hid hn
  rw [← hn] at hcp hks ⊢
  clear hn
  have s4 : (4 : Int) ≤ ((n + 5 : Nat) : Int) := by omega
  have s4' : (4 : Int) ≤ (n : Int) + 5 := by omega
  have z0 : (0 : Int) < (n : Int) + 5 := by omega
  have z1 : (1 : Int) < (n : Int) + 5 := by omega
  have z2 : (2 : Int) < (n : Int) + 5 := by omega
  have z3 : (3 : Int) < (n : Int) + 5 := by omega
  have s1 : (1 : Int) ≤ (n : Int) + 1 := by omega
  have HO := (Own.start w).alloc' (.cells #[.int .i64 0, .int .u64 0, .int .u64 0, .int .u64 0, .string ⟨#[]⟩, .string ⟨#[]⟩, .int .u64 0, .int .u64 0, .string ⟨#[]⟩, .int .u64 0, .int .u64 0, .string ⟨#[]⟩, .slice none 0 0] 25) rfl
  go_enter Try.func27, Try.ntmps27
  go_wp2_with fail
  refine bstart (fun w => w.heap.size) (n := 20) (ds := [19]) #[false, false, false, false, false, false, false, false, false, false, false, false, false, false, false, false, false, false, false, false] (by kernel_rfl) rfl rfl (Nat.le_refl _) (fun HBS => ?_)
  refine bseq (m := 2) (.inl rfl) [(0, true, some 6), (1, true, some 7), (2, true, some 8), (5, true, some 11), (6, true, some 12), (7, true, some 13), (9, true, some 15), (10, true, some 16), (11, true, some 17), (13, true, some 19), (14, true, some 20), (15, true, some 21), (3, true, some 9), (4, true, some 10), (8, true, some 14), (12, true, some 18), (16, true, some 22), (17, true, some 23)] #[true, true, true, true, true, true, true, true, true, true, true, true, true, true, true, true, true, true, false, false] HBS (by kernel_rfl) rfl (fun _ _ _ _ _ h => h) ?_
  (refine sP (v := ?_) (a' := ?_) rfl rfl (by rfl) ?_ ?_ ?_; rotate_left 2; (· intro w'; go_simp; with_reducible rfl); (· simp only [Act.put, List.setIfInBounds_toArray, List.set_cons_zero, List.set_cons_succ, kw64, kw32]; rfl))
  (refine sP (v := ?_) (a' := ?_) rfl rfl (by rfl) ?_ ?_ ?_; rotate_left 2; (· intro w'; go_simp; with_reducible rfl); (· simp only [Act.put, List.setIfInBounds_toArray, List.set_cons_zero, List.set_cons_succ, kw64, kw32]; rfl))
  (refine sP (v := ?_) (a' := ?_) rfl rfl (by rfl) ?_ ?_ ?_; rotate_left 2; (· intro w'; go_simp; with_reducible rfl); (· simp only [Act.put, List.setIfInBounds_toArray, List.set_cons_zero, List.set_cons_succ, kw64, kw32]; rfl))
  (refine sP (v := ?_) (a' := ?_) rfl rfl (by rfl) ?_ ?_ ?_; rotate_left 2; (· intro w'; go_simp; with_reducible rfl); (· simp only [Act.put, List.setIfInBounds_toArray, List.set_cons_zero, List.set_cons_succ, kw64, kw32]; rfl))
  (refine sP (v := ?_) (a' := ?_) rfl rfl (by rfl) ?_ ?_ ?_; rotate_left 2; (· intro w'; go_simp; with_reducible rfl); (· simp only [Act.put, List.setIfInBounds_toArray, List.set_cons_zero, List.set_cons_succ, kw64, kw32]; rfl))
  (refine sP (v := ?_) (a' := ?_) rfl rfl (by rfl) ?_ ?_ ?_; rotate_left 2; (· intro w'; go_simp; with_reducible rfl); (· simp only [Act.put, List.setIfInBounds_toArray, List.set_cons_zero, List.set_cons_succ, kw64, kw32]; rfl))
  (refine sP (v := ?_) (a' := ?_) rfl rfl (by rfl) ?_ ?_ ?_; rotate_left 2; (· intro w'; go_simp; with_reducible rfl); (· simp only [Act.put, List.setIfInBounds_toArray, List.set_cons_zero, List.set_cons_succ, kw64, kw32]; rfl))
  (refine sP (v := ?_) (a' := ?_) rfl rfl (by rfl) ?_ ?_ ?_; rotate_left 2; (· intro w'; go_simp; with_reducible rfl); (· simp only [Act.put, List.setIfInBounds_toArray, List.set_cons_zero, List.set_cons_succ, kw64, kw32]; rfl))
  (refine sP (v := ?_) (a' := ?_) rfl rfl (by rfl) ?_ ?_ ?_; rotate_left 2; (· intro w'; go_simp; with_reducible rfl); (· simp only [Act.put, List.setIfInBounds_toArray, List.set_cons_zero, List.set_cons_succ, kw64, kw32]; rfl))
  (refine sP (v := ?_) (a' := ?_) rfl rfl (by rfl) ?_ ?_ ?_; rotate_left 2; (· intro w'; go_simp; with_reducible rfl); (· simp only [Act.put, List.setIfInBounds_toArray, List.set_cons_zero, List.set_cons_succ, kw64, kw32]; rfl))
  (refine sP (v := ?_) (a' := ?_) rfl rfl (by rfl) ?_ ?_ ?_; rotate_left 2; (· intro w'; go_simp; with_reducible rfl); (· simp only [Act.put, List.setIfInBounds_toArray, List.set_cons_zero, List.set_cons_succ, kw64, kw32]; rfl))
  (refine sP (v := ?_) (a' := ?_) rfl rfl (by rfl) ?_ ?_ ?_; rotate_left 2; (· intro w'; go_simp; with_reducible rfl); (· simp only [Act.put, List.setIfInBounds_toArray, List.set_cons_zero, List.set_cons_succ, kw64, kw32]; rfl))
  (refine sB (v := ?_) (a' := ?_) rfl rfl (by rfl) ?_ ?_ ?_; rotate_left 2; (· intro w1 hg; have e1 := pw_cell_below (HO.up hg).below d1; have e4 := pw_cell_below (HO.up hg).below d4; have e7 := pw_cell_below (HO.up hg).below d7; have e10 := pw_cell_below (HO.up hg).below d10; go_simp; with_reducible rfl); (· simp only [Act.put, List.setIfInBounds_toArray, List.set_cons_zero, List.set_cons_succ, kw64, kw32]; rfl))
  (refine sP (v := .int .i64 2) (a' := ?_) rfl rfl (by rfl) ?_ ?_ ?_; rotate_left 1; (· intro w'; go_simp; try rfl); (· simp only [Act.put, List.setIfInBounds_toArray, List.set_cons_zero, List.set_cons_succ, kw64, kw32]; rfl))
  (refine sB (v := ?_) (a' := ?_) rfl rfl (by rfl) ?_ ?_ ?_; rotate_left 2; (· intro w1 hg; have e1 := pw_cell_below (HO.up hg).below d1; have e4 := pw_cell_below (HO.up hg).below d4; have e7 := pw_cell_below (HO.up hg).below d7; have e10 := pw_cell_below (HO.up hg).below d10; go_simp; with_reducible rfl); (· simp only [Act.put, List.setIfInBounds_toArray, List.set_cons_zero, List.set_cons_succ, kw64, kw32]; rfl))
  (refine sB (v := ?_) (a' := ?_) rfl rfl (by rfl) ?_ ?_ ?_; rotate_left 2; (· intro w1 hg; have e1 := pw_cell_below (HO.up hg).below d1; have e4 := pw_cell_below (HO.up hg).below d4; have e7 := pw_cell_below (HO.up hg).below d7; have e10 := pw_cell_below (HO.up hg).below d10; go_simp; with_reducible rfl); (· simp only [Act.put, List.setIfInBounds_toArray, List.set_cons_zero, List.set_cons_succ, kw64, kw32]; rfl))
  (refine sB (v := ?_) (a' := ?_) rfl rfl (by rfl) ?_ ?_ ?_; rotate_left 2; (· intro w1 hg; have e1 := pw_cell_below (HO.up hg).below d1; have e4 := pw_cell_below (HO.up hg).below d4; have e7 := pw_cell_below (HO.up hg).below d7; have e10 := pw_cell_below (HO.up hg).below d10; go_simp; with_reducible rfl); (· simp only [Act.put, List.setIfInBounds_toArray, List.set_cons_zero, List.set_cons_succ, kw64, kw32]; rfl))
  (refine sP (v := ?_) (a' := ?_) rfl rfl (by rfl) ?_ ?_ ?_; rotate_left 2; (· intro w'; go_simp; with_reducible rfl); (· simp only [Act.put, List.setIfInBounds_toArray, List.set_cons_zero, List.set_cons_succ, kw64, kw32]; rfl))
  refine bone (i := 18) (N := (some 3)) #[true, true, true, true, true, true, true, true, true, true, true, true, true, true, true, true, true, true, true, false] rfl rfl (by kernel_rfl) HBS (fun w1 hg K hK => ?_)
  rw [if_pos (by rfl)]
  replace HO := HO.up hg
  have hz := HO.lt 0 rfl
  go_simp
  refine hK _ _ (not_ds (by decide) (below_alloc (Below.refl _ _) _)) (fun HBS => ?_)
  replace HO := HO.alloc (.cells #[.int .i64 0, .int .u64 0, .int .u64 0, .int .u64 0, .string ⟨#[]⟩, .string ⟨#[]⟩, .int .u64 0, .int .u64 0, .string ⟨#[]⟩, .int .u64 0, .int .u64 0, .string ⟨#[]⟩, .slice none 0 0] 25)
  have hga := Below.size hg
  clear hg K hK hz
  generalize w1.alloc (.cells #[.int .i64 0, .int .u64 0, .int .u64 0, .int .u64 0, .string ⟨#[]⟩, .string ⟨#[]⟩, .int .u64 0, .int .u64 0, .string ⟨#[]⟩, .int .u64 0, .int .u64 0, .string ⟨#[]⟩, .slice none 0 0] 25) = wa at *
  generalize w1.heap.size = ga at *
  refine bone (i := 19) (N := none) #[true, true, true, true, true, true, true, true, true, true, true, true, true, true, true, true, true, true, true, true] rfl rfl (by kernel_rfl) HBS (fun w1 hg K hK => ?_)
  rw [if_pos (by rfl)]
  replace HO := HO.up hg
  refine wp_store_row 25 (.tmp 3) (.tmp 23) rfl ga #[.int .i64 2, .int .u64 (a : Int), .int .u64 (b : Int), .int .u64 (c : Int), .string ⟨#[]⟩, .string ⟨#[]⟩, .int .u64 0, .int .u64 0, .string ⟨#[]⟩, .int .u64 0, .int .u64 0, .string ⟨#[]⟩, (.slice none 0 0)] (by rfl) (by rfl) _ _ (HO.blk 0 rfl) (by kernel_rfl) rfl (frC_one _ _ _ _ _ _ _ _ _ _ _ _ _ _ _) ?_
  refine hK _ _ (in_ds (by decide) (bel_setRow (by omega) _)) (fun HBS => ?_)
  replace HO := HO.setRow 0 rfl #[.int .i64 2, .int .u64 (a : Int), .int .u64 (b : Int), .int .u64 (c : Int), .string ⟨#[]⟩, .string ⟨#[]⟩, .int .u64 0, .int .u64 0, .string ⟨#[]⟩, .int .u64 0, .int .u64 0, .string ⟨#[]⟩, (.slice none 0 0)] (L' := [(ga, .cells #[.int .i64 2, .int .u64 (a : Int), .int .u64 (b : Int), .int .u64 (c : Int), .string ⟨#[]⟩, .string ⟨#[]⟩, .int .u64 0, .int .u64 0, .string ⟨#[]⟩, .int .u64 0, .int .u64 0, .string ⟨#[]⟩, (.slice none 0 0)] 25 (0, 0)), (w.heap.size, .cells #[.int .i64 0, .int .u64 0, .int .u64 0, .int .u64 0, .string ⟨#[]⟩, .string ⟨#[]⟩, .int .u64 0, .int .u64 0, .string ⟨#[]⟩, .int .u64 0, .int .u64 0, .string ⟨#[]⟩, .slice none 0 0] 25 (0, 0))]) rfl
  clear hg K hK
  revert HO HBS
  generalize World.setRow w1 _ _ = wb
  intro HBS HO
  refine bdone (by kernel_rfl) (fun w1 hg => ?_)
  replace HO := HO.up hg
  clear hg
  have c0 := HO.cell 0 rfl 0
  by_cases h5 : cp - 4 = 1
  · have HN0 := Lib.hid (show n = 0 by omega)
    go_wp2_with fail
    clear c0
    have HG := Lib.hid (HO.lt 0 rfl)
    have HO0 := Lib.hid HO
    clear HO
    go_loopw [78] (fun c78 wr => ∃ i : Nat, c78 = .int .i64 (i : Int) ∧ Aside0 (i ≤ n ∧ ∃ v, Own w [(ga, .cells #[.int .i64 2, .int .u64 (a : Int), .int .u64 (b : Int), .int .u64 (c : Int), .string ⟨#[]⟩, .string ⟨#[]⟩, .int .u64 0, .int .u64 0, .string ⟨#[]⟩, .int .u64 0, .int .u64 0, .string ⟨#[]⟩, v] 25 (0, 0)), (w.heap.size, .cells #[.int .i64 0, .int .u64 0, .int .u64 0, .int .u64 0, .string ⟨#[]⟩, .string ⟨#[]⟩, .int .u64 0, .int .u64 0, .string ⟨#[]⟩, .int .u64 0, .int .u64 0, .string ⟨#[]⟩, .slice none 0 0] 25 (0, 0))] wr ∧ wr.ownsRow (ga + 1) 9 1 v i ((ks.take i).map Value.string))) (fun c78 _ => n - (intOf c78).toNat)
    case atStart => exact ⟨0, rfl, ⟨by omega, _, HO0.out, own_nil _ _ _ _⟩⟩
    case round =>
      clear HO0
      obtain ⟨i, rfl, hrel⟩ := hrel
      obtain ⟨hi, v, HO, hR⟩ := hrel.out
      clear hrel
      by_cases hlt : i < n
      · (have := HN0.out; omega)
      · obtain rfl : i = n := by omega
        have hge' : ¬ ((i : Int) < (i : Int)) := by omega
        obtain ⟨A', cap, rfl⟩ := own_shapeF hR
        rw [List.take_of_length_le (by have := HN.out; omega)] at hR
        clear hge'
        have hge' : ¬ ((i : Int) < (i : Int)) := by omega
        have HRh := Lib.hid hR
        clear hR
        go_wp2_with (first | (refine wpList_load_row rfl 25 (.tmp 3) rfl ga (by rfl) _ #[.int .i64 2, .int .u64 (a : Int), .int .u64 (b : Int), .int .u64 (c : Int), .string ⟨#[]⟩, .string ⟨#[]⟩, .int .u64 0, .int .u64 0, .string ⟨#[]⟩, .int .u64 0, .int .u64 0, .string ⟨#[]⟩, (.slice A' i cap)] _ _ (HO.blk 0 rfl) Try.underlying25 rfl (by kernel_rfl) ?_) | (refine wpList_store_row rfl 25 (.tmp 2) (.tmp 90) rfl w.heap.size #[.int .i64 2, .int .u64 (a : Int), .int .u64 (b : Int), .int .u64 (c : Int), .string ⟨#[]⟩, .string ⟨#[]⟩, .int .u64 0, .int .u64 0, .string ⟨#[]⟩, .int .u64 0, .int .u64 0, .string ⟨#[]⟩, (.slice A' i cap)] (by rfl) (by rfl) _ _ (HO.blk 1 rfl) (by kernel_rfl) rfl (frC_one _ _ _ _ _ _ _ _ _ _ _ _ _ _ _) ?_))
        have hne : ∀ k, (Value.slice A' i cap).ownBlock = some k → k ≠ w.heap.size := fun k hk => by have h1 := own_base HRh.out k hk; have := HO.lt 1 rfl; have := HO.ge 0 rfl; omega
        have HR2 := own_move HRh.out (w1 := wr.setRow w.heap.size #[.int .i64 2, .int .u64 (a : Int), .int .u64 (b : Int), .int .u64 (c : Int), .string ⟨#[]⟩, .string ⟨#[]⟩, .int .u64 0, .int .u64 0, .string ⟨#[]⟩, .int .u64 0, .int .u64 0, .string ⟨#[]⟩, (.slice A' i cap)]) (fun k hk => setRow_other wr w.heap.size k _ (hne k hk))
        replace HO := HO.setRow 1 rfl #[.int .i64 2, .int .u64 (a : Int), .int .u64 (b : Int), .int .u64 (c : Int), .string ⟨#[]⟩, .string ⟨#[]⟩, .int .u64 0, .int .u64 0, .string ⟨#[]⟩, .int .u64 0, .int .u64 0, .string ⟨#[]⟩, (.slice A' i cap)] (L' := [(ga, .cells #[.int .i64 2, .int .u64 (a : Int), .int .u64 (b : Int), .int .u64 (c : Int), .string ⟨#[]⟩, .string ⟨#[]⟩, .int .u64 0, .int .u64 0, .string ⟨#[]⟩, .int .u64 0, .int .u64 0, .string ⟨#[]⟩, (.slice A' i cap)] 25 (0, 0)), (w.heap.size, .cells #[.int .i64 2, .int .u64 (a : Int), .int .u64 (b : Int), .int .u64 (c : Int), .string ⟨#[]⟩, .string ⟨#[]⟩, .int .u64 0, .int .u64 0, .string ⟨#[]⟩, .int .u64 0, .int .u64 0, .string ⟨#[]⟩, (.slice A' i cap)] 25 (0, 0))]) rfl
        exact bodyPost_ret (v := .agg #[.int .i64 2, .int .u64 (a : Int), .int .u64 (b : Int), .int .u64 (c : Int), .string ⟨#[]⟩, .string ⟨#[]⟩, .int .u64 0, .int .u64 0, .string ⟨#[]⟩, .int .u64 0, .int .u64 0, .string ⟨#[]⟩, (.slice A' i cap)]) (results_cell_row Try.results27 _ _ w.heap.size 25 _ (0, 0) _ (by rfl) (HO.blk 1 rfl) Try.underlying25 rfl (by kernel_rfl)) rfl ⟨⟨_, rfl, outRowF HR2 HN.out.symm⟩, HO.below⟩
  · go_wp2_with fail
    clear c0
    have HG := Lib.hid (HO.lt 0 rfl)
    have HO0 := Lib.hid HO
    clear HO
    go_loopw [78] (fun c78 wr => ∃ i : Nat, c78 = .int .i64 (i : Int) ∧ Aside0 (i ≤ n ∧ ∃ v, Own w [(ga, .cells #[.int .i64 2, .int .u64 (a : Int), .int .u64 (b : Int), .int .u64 (c : Int), .string ⟨#[]⟩, .string ⟨#[]⟩, .int .u64 0, .int .u64 0, .string ⟨#[]⟩, .int .u64 0, .int .u64 0, .string ⟨#[]⟩, v] 25 (0, 0)), (w.heap.size, .cells #[.int .i64 0, .int .u64 0, .int .u64 0, .int .u64 0, .string ⟨#[]⟩, .string ⟨#[]⟩, .int .u64 0, .int .u64 0, .string ⟨#[]⟩, .int .u64 0, .int .u64 0, .string ⟨#[]⟩, .slice none 0 0] 25 (0, 0))] wr ∧ wr.ownsRow (ga + 1) 9 1 v i ((ks.take i).map Value.string))) (fun c78 _ => n - (intOf c78).toNat)
    case atStart => exact ⟨0, rfl, ⟨by omega, _, HO0.out, own_nil _ _ _ _⟩⟩
    case round =>
      clear HO0
      obtain ⟨i, rfl, hrel⟩ := hrel
      obtain ⟨hi, v, HO, hR⟩ := hrel.out
      clear hrel
      by_cases hlt : i < n
      · have i1 : (i : Int) < (n : Int) := by omega
        have i0 : (0 : Int) ≤ (i : Int) := by omega
        obtain ⟨k, hk⟩ : ∃ k, ks[i]? = some k := ⟨_, List.getElem?_eq_getElem (by have := HN.out; omega)⟩
        obtain ⟨e0, e1, e2⟩ := HKY.out i k hk
        replace e0 := pw_cell_below HO.below e0
        replace e1 := pw_cell_below HO.below e1
        replace e2 := pw_cell_below HO.below e2
        have HMK := Lib.hid (show (ks.take (i + 1)).map Value.string = (ks.take i).map Value.string ++ [.string k] by rw [List.take_add_one, hk, List.map_append]; rfl)
        clear hk
        have HO1 := HO.alloc' (.cells #[.bool true, .int .u64 0, .string k] 67) rfl
        have hsz : (wr.alloc (.cells #[.bool true, .int .u64 0, .string k] 67)).heap.size = wr.heap.size + 1 := by simp
        have hC2 := cell_one_new (wr.alloc (.cells #[.bool true, .int .u64 0, .string k] 67)) (.string k) 9
        rw [hsz] at hC2
        have hlo : ga + 1 ≤ wr.heap.size + 1 := by have := HO.lt 0 rfl; omega
        have hge := HO.ge 0 rfl
        have hltg := HO.lt 0 rfl
        have hltw := HO.lt 1 rfl
        have HLT := Lib.hid (fun (q : Nat) (hq : v.ownBlock = some q) => own_lt hR q hq)
        have HBS := Lib.hid (fun (q : Nat) (hq : v.ownBlock = some q) => own_base hR q hq)
        have HR1 := Lib.hid (hR.alloc (.cells #[.bool true, .int .u64 0, .string k] 67))
        have HC2 := Lib.hid hC2
        have HSZ := Lib.hid hsz
        have HO1h := Lib.hid HO1
        have c0 := HO1.cell 0 rfl
        have c12 := HO1.cell 1 rfl 12
        have f12 := HO1.frozen 1 rfl 12
        obtain ⟨i0', hi0, hz0, hz1, hz2⟩ := info_parts info_strF
        clear hsz hC2 hR HO HO1
        go_wp2_with (at_builtin; refine wpList_append_own _ rfl (.tmp 83) (.tmp 86) 23 rfl (ga + 1) 9 i0' (.string ⟨#[]⟩) 1 16 Try.underlying23 hi0 hz0 hz1 hz2 rfl (by decide) _ _ _ rfl (HR1.out.alloc _) ⟨wr.heap.size + 1, 0, none⟩ 1 1 [.string k] rfl rfl HC2.out (by intro u hu; rw [List.mem_singleton.1 hu]; rfl) (by unfold maxLen; omega) (by omega) (by rw [World.size_alloc, HSZ.out]; omega) ?_; intro v' w2 hR3 hg2 _; obtain ⟨g', cap', rfl, hgb⟩ := own_sliceF hR3; have HO := (HO1h.out.up (below_alloc (Below.refl _ _) _)).grownF hg2 (fun q hq => by have h1 := HBS.out q hq; have h2 := HLT.out q hq; exact ⟨by omega, by simp; omega⟩); clear c0 c12 f12; have f12 := HO.frozen 1 rfl 12; have c12 := HO.cell 1 rfl 12)
        have hR4 := own_move hR3 (w1 := w2.setCell ⟨ga, 12, none⟩ (.slice (some ⟨g', 0, none⟩) (i + 1) cap')) (fun q hq => Below.heap_setCell _ _ _ q (by have := own_base hR3 q hq; show q ≠ ga; omega))
        replace HO := (HO.set' 1 rfl 12 (.slice (some ⟨g', 0, none⟩) (i + 1) cap') (L' := [(wr.heap.size, .cells #[.bool true, .int .u64 0, .string k] 67 (0, 0)), (ga, .cells #[.int .i64 2, .int .u64 (a : Int), .int .u64 (b : Int), .int .u64 (c : Int), .string ⟨#[]⟩, .string ⟨#[]⟩, .int .u64 0, .int .u64 0, .string ⟨#[]⟩, .int .u64 0, .int .u64 0, .string ⟨#[]⟩, (.slice (some ⟨g', 0, none⟩) (i + 1) cap')] 25 (0, 0)), (w.heap.size, .cells #[.int .i64 0, .int .u64 0, .int .u64 0, .int .u64 0, .string ⟨#[]⟩, .string ⟨#[]⟩, .int .u64 0, .int .u64 0, .string ⟨#[]⟩, .int .u64 0, .int .u64 0, .string ⟨#[]⟩, .slice none 0 0] 25 (0, 0))]) rfl).drop _ (List.tail_sublist _)
        rw [← HMK.out] at hR4
        have HOh := Lib.hid HO
        have HRh := Lib.hid hR4
        clear f12 c12 HC2 HR1 HO1h HO hR3 hR4 e0 e1 e2
        go_roundw
        case rel => exact ⟨i + 1, by go_num, ⟨by omega, _, HOh.out, HRh.out⟩⟩
        case measure => simp [intOf]; omega
      · obtain rfl : i = n := by omega
        have hge' : ¬ ((i : Int) < (i : Int)) := by omega
        obtain ⟨A', cap, rfl⟩ := own_shapeF hR
        rw [List.take_of_length_le (by have := HN.out; omega)] at hR
        clear hge'
        have hge' : ¬ ((i : Int) < (i : Int)) := by omega
        have HRh := Lib.hid hR
        clear hR
        go_wp2_with (first | (refine wpList_load_row rfl 25 (.tmp 3) rfl ga (by rfl) _ #[.int .i64 2, .int .u64 (a : Int), .int .u64 (b : Int), .int .u64 (c : Int), .string ⟨#[]⟩, .string ⟨#[]⟩, .int .u64 0, .int .u64 0, .string ⟨#[]⟩, .int .u64 0, .int .u64 0, .string ⟨#[]⟩, (.slice A' i cap)] _ _ (HO.blk 0 rfl) Try.underlying25 rfl (by kernel_rfl) ?_) | (refine wpList_store_row rfl 25 (.tmp 2) (.tmp 90) rfl w.heap.size #[.int .i64 2, .int .u64 (a : Int), .int .u64 (b : Int), .int .u64 (c : Int), .string ⟨#[]⟩, .string ⟨#[]⟩, .int .u64 0, .int .u64 0, .string ⟨#[]⟩, .int .u64 0, .int .u64 0, .string ⟨#[]⟩, (.slice A' i cap)] (by rfl) (by rfl) _ _ (HO.blk 1 rfl) (by kernel_rfl) rfl (frC_one _ _ _ _ _ _ _ _ _ _ _ _ _ _ _) ?_))
        have hne : ∀ k, (Value.slice A' i cap).ownBlock = some k → k ≠ w.heap.size := fun k hk => by have h1 := own_base HRh.out k hk; have := HO.lt 1 rfl; have := HO.ge 0 rfl; omega
        have HR2 := own_move HRh.out (w1 := wr.setRow w.heap.size #[.int .i64 2, .int .u64 (a : Int), .int .u64 (b : Int), .int .u64 (c : Int), .string ⟨#[]⟩, .string ⟨#[]⟩, .int .u64 0, .int .u64 0, .string ⟨#[]⟩, .int .u64 0, .int .u64 0, .string ⟨#[]⟩, (.slice A' i cap)]) (fun k hk => setRow_other wr w.heap.size k _ (hne k hk))
        replace HO := HO.setRow 1 rfl #[.int .i64 2, .int .u64 (a : Int), .int .u64 (b : Int), .int .u64 (c : Int), .string ⟨#[]⟩, .string ⟨#[]⟩, .int .u64 0, .int .u64 0, .string ⟨#[]⟩, .int .u64 0, .int .u64 0, .string ⟨#[]⟩, (.slice A' i cap)] (L' := [(ga, .cells #[.int .i64 2, .int .u64 (a : Int), .int .u64 (b : Int), .int .u64 (c : Int), .string ⟨#[]⟩, .string ⟨#[]⟩, .int .u64 0, .int .u64 0, .string ⟨#[]⟩, .int .u64 0, .int .u64 0, .string ⟨#[]⟩, (.slice A' i cap)] 25 (0, 0)), (w.heap.size, .cells #[.int .i64 2, .int .u64 (a : Int), .int .u64 (b : Int), .int .u64 (c : Int), .string ⟨#[]⟩, .string ⟨#[]⟩, .int .u64 0, .int .u64 0, .string ⟨#[]⟩, .int .u64 0, .int .u64 0, .string ⟨#[]⟩, (.slice A' i cap)] 25 (0, 0))]) rfl
        exact bodyPost_ret (v := .agg #[.int .i64 2, .int .u64 (a : Int), .int .u64 (b : Int), .int .u64 (c : Int), .string ⟨#[]⟩, .string ⟨#[]⟩, .int .u64 0, .int .u64 0, .string ⟨#[]⟩, .int .u64 0, .int .u64 0, .string ⟨#[]⟩, (.slice A' i cap)]) (results_cell_row Try.results27 _ _ w.heap.size 25 _ (0, 0) _ (by rfl) (HO.blk 1 rfl) Try.underlying25 rfl (by kernel_rfl)) rfl ⟨⟨_, rfl, outRowF HR2 HN.out.symm⟩, HO.below⟩
end Go.Proofs.Ytfghjahmnjghgaa

set_option linter.unusedVariables false
set_option linter.unusedSimpArgs false
/- LAYER 8: points that are odd. -/
namespace Go.Proofs.Ytfghjahmnjghgaa
open Go.RowKit Go.Proofs.YtfghjahmnjghgaaW.PrintWords
theorem C_plF {w : World} {A : Option Addr} {n : Nat} {xs : List ByteArray} (h : Kd.string.C w A n xs) (h0 : 0 < n) : ∃ bk of, A = some ⟨bk, of, none⟩ ∧ (∀ (j : Nat) x, xs[j]? = some x → w.cell? ⟨bk, of + j, none⟩ = some (.string x)) ∧ bk < w.heap.size := by
  obtain ⟨ad, hA, hc⟩ := h.2.2 h0
  have hcell : ∀ (j : Nat) x, xs[j]? = some x → w.cell? (ad.add j) = some (.string x) := fun j x hx => by
    obtain ⟨cs, hs, hk, hh⟩ := hc j x hx
    have hk : cs = [.string x] := hk
    subst hk
    have := hh 0 _ rfl
    rw [show j * Kd.string.sz + 0 = j by show j * 1 + 0 = j; omega] at this
    exact this
  obtain ⟨x, hx⟩ : ∃ x, xs[0]? = some x := ⟨_, List.getElem?_eq_getElem (by have := h.1; omega)⟩
  have h1 := hcell 0 x hx
  have ha : ad.add 0 = ad := by unfold Addr.add; simp
  rw [ha] at h1
  have hsp : ad.spot = none ∧ ad.block < w.heap.size := by
    unfold World.cell? at h1
    split at h1
    · rename_i hb
      split at h1
      · cases h1
      · rename_i hs
        refine ⟨by cases hq : ad.spot with | none => rfl | some _ => simp [hq] at hs, (Array.getElem?_eq_some_iff.1 hb).1⟩
    · cases h1
  obtain ⟨bk, of, sp⟩ := ad
  obtain rfl : sp = none := hsp.1
  refine ⟨bk, of, hA, fun j x hx => ?_, hsp.2⟩
  have := hcell j x hx
  rw [Addr.add_mid] at this
  exact this
attribute [local irreducible] Calls
theorem odd_any (s : ByteArray) (w : World) : Calls Try.prog 28 #[.string s] w fun e w' => e = .returned (.bool (!(s.size == 32))) ∧ w' = w := by
  by_cases h : s.size = 32
  · have e1 : ((s.size : Int) != 32) = false := by rw [h]; rfl
    rw [show (s.size == 32) = true from by rw [beq_iff_eq]; exact h]
    clear h
    go_enter Try.func28, Try.ntmps28
    go_wp2
    go_ret
    exact ⟨rfl, rfl⟩
  · have e1 : ((s.size : Int) != 32) = true := by rw [bne_iff_ne]; omega
    rw [show (s.size == 32) = false from by rw [beq_eq_false_iff_ne]; exact h]
    clear h
    go_enter Try.func28, Try.ntmps28
    go_wp2
    go_ret
    exact ⟨rfl, rfl⟩
/-- are there odd ones? -/
def oddL (ks : List ByteArray) : Bool := ks.any (fun s => !(s.size == 32))
set_option maxHeartbeats 4000000 in
set_option maxRecDepth 100000 in
theorem IndexFunc_any (A : Option Addr) (n c : Nat) (ks : List ByteArray) (w : World) (hC : Kd.string.C w A n ks) (hn : n ≤ 1000000) :
    Calls Try.prog 46 #[.slice A n c, .func (.func 28) #[] #[]] w fun e w' => (∃ i : Int, e = .returned (.int .i64 i) ∧ decide (0 ≤ i) = oddL ks) ∧ w' = w := by
  have hl := hC.1
  go_enter Try.func46, Try.ntmps46
  go_wp2_with fail
  go_loopw [8] (fun c8 wr => ∃ i : Nat, c8 = .int .i64 (i : Int) ∧ Aside0 (i ≤ n ∧ oddL (ks.take i) = false) ∧ wr = w) (fun c8 _ => n - (intOf c8).toNat)
  case atStart => exact ⟨0, rfl, ⟨by omega, rfl⟩, rfl⟩
  case round =>
    obtain ⟨i, rfl, hrel, rfl⟩ := hrel
    obtain ⟨hi, ho⟩ := hrel.out
    clear hrel
    by_cases hlt : i < n
    · have i1 : (i : Int) < (n : Int) := by omega
      have i0 : (0 : Int) ≤ (i : Int) := by omega
      obtain ⟨bk, of, rfl, hcell, _⟩ := C_plF hC (by omega)
      obtain ⟨x, hx⟩ : ∃ x, ks[i]? = some x := ⟨_, List.getElem?_eq_getElem (by omega)⟩
      have c0 := hcell i x hx
      by_cases hq : x.size = 32
      · have ho' := Lib.hid (show oddL (ks.take (i + 1)) = false by
          rw [List.take_add_one, hx]
          unfold oddL at *
          rw [List.any_append, ho]
          simp [hq])
        have hb : (x.size == 32) = true := by rw [beq_iff_eq]; exact hq
        have HI := Lib.hid (show i + 1 ≤ n by omega)
        clear hx hq ho hcell
        go_wp2_with fail
        refine (odd_any x _).mono ?_
        rintro e w1 ⟨rfl, rfl⟩
        rw [hb]
        go_wp2
        go_roundw
        case rel => exact ⟨i + 1, by go_num, ⟨HI.out, ho'.out⟩, by first | rfl | trivial⟩
        case measure => simp [intOf]; omega
      · have hall := Lib.hid (show oddL ks = true by
          unfold oddL
          rw [List.any_eq_true]
          exact ⟨x, List.mem_of_getElem? hx, by simp [hq]⟩)
        have hb : (x.size == 32) = false := by rw [beq_eq_false_iff_ne]; exact hq
        clear hx hq ho hcell
        go_wp2_with fail
        refine (odd_any x _).mono ?_
        rintro e w1 ⟨rfl, rfl⟩
        rw [hb]
        go_wp2
        go_ret
        exact ⟨⟨_, rfl, by rw [hall.out]; exact decide_eq_true i0⟩, rfl⟩
    · have hge : ¬ ((i : Int) < (n : Int)) := by omega
      have hall : oddL ks = false := by rw [List.take_of_length_le (by omega)] at ho; exact ho
      go_wp2
      go_ret
      exact ⟨⟨_, rfl, by first | (rw [hall]; rfl) | decide⟩, rfl⟩
set_option maxHeartbeats 1000000 in
theorem ContainsFunc_any (A : Option Addr) (n c : Nat) (ks : List ByteArray) (w : World) (hC : Kd.string.C w A n ks) (hn : n ≤ 1000000) :
    Calls Try.prog 29 #[.slice A n c, .func (.func 28) #[] #[]] w fun e w' => e = .returned (.bool (oddL ks)) ∧ w' = w := by
  have HI := Lib.hid (IndexFunc_any A n c ks w hC hn)
  go_enter Try.func29, Try.ntmps29
  go_wp2_with fail
  refine HI.out.mono ?_
  rintro e w1 ⟨⟨i, rfl, hi⟩, rfl⟩
  have HH := Lib.hid hi
  clear hi
  go_wp2
  go_ret
  exact ⟨by rw [← HH.out]; rfl, rfl⟩
end Go.Proofs.Ytfghjahmnjghgaa

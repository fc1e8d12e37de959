import Derived.Test.YtfghjahmnjghgaaDc
import Derived.Test.YtfghjahmnjghgaaDq
import Derived.Test.YtfghjahmnjghgaaDa
import Derived.ProofKit
import Derived.Deep.Slices
import Derived.Deep.Strs
set_option linter.unusedSimpArgs false
set_option linter.unusedVariables false
/- LAYER 14: a frame of keys. -/
namespace Go.Proofs.Ytfghjahmnjghgaa
open Go.RowKit Go.Proofs.YtfghjahmnjghgaaW.PrintWords
def keyF (a b c : Nat) (ks : List ByteArray) : FrD := ⟨2, a, b, c, ⟨#[]⟩, ⟨#[]⟩, 0, 0, ⟨#[]⟩, 0, 0, ⟨#[]⟩, ks⟩
attribute [local irreducible] Calls
set_option maxHeartbeats 4000000 in
set_option maxRecDepth 100000 in
theorem RvFrame_no (a b c : Nat) (ks : List ByteArray) (A : Option Addr) (cp : Nat) (w : World) (hC : Kd.string.C w A ks.length ks) (hc : ks.length ≤ cp) (hn : ks.length ≤ 1000000) (hr : rightF (keyF a b c ks) = false) :
    Calls Try.prog 17 #[.int .u64 (a : Int), .int .u64 (b : Int), .int .u64 (c : Int), .slice A ks.length cp] w fun e w' => e = .returned (.tuple #[.agg #[.int .i64 0, .int .u64 0, .int .u64 0, .int .u64 0, .string ⟨#[]⟩, .string ⟨#[]⟩, .int .u64 0, .int .u64 0, .string ⟨#[]⟩, .int .u64 0, .int .u64 0, .string ⟨#[]⟩, .slice none 0 0], .int .i64 1]) ∧ Below w.heap.size w w' := by
  have HR := Lib.hid (fun w1 (hg : Below w.heap.size w w1) => show Calls Try.prog 8 #[.agg #[.int .i64 2, .int .u64 (a : Int), .int .u64 (b : Int), .int .u64 (c : Int), .string ⟨#[]⟩, .string ⟨#[]⟩, .int .u64 0, .int .u64 0, .string ⟨#[]⟩, .int .u64 0, .int .u64 0, .string ⟨#[]⟩, .slice A ks.length cp]] w1 (fun e w' => e = .returned (.bool (rightF (keyF a b c ks))) ∧ Below w1.heap.size w1 w') from Right_any (keyF a b c ks) A cp w1 (Kd.C_below hC hg) hc hn)
  rw [hr] at HR
  clear hC hc hn hr
  generalize ks.length = n at *
  have HO := ((Own.start w).alloc' (.cells #[.int .i64 0, .int .u64 0, .int .u64 0, .int .u64 0, .string ⟨#[]⟩, .string ⟨#[]⟩, .int .u64 0, .int .u64 0, .string ⟨#[]⟩, .int .u64 0, .int .u64 0, .string ⟨#[]⟩, .slice none 0 0] 25) rfl).alloc' (.cells #[.int .i64 2, .int .u64 (a : Int), .int .u64 (b : Int), .int .u64 (c : Int), .string ⟨#[]⟩, .string ⟨#[]⟩, .int .u64 0, .int .u64 0, .string ⟨#[]⟩, .int .u64 0, .int .u64 0, .string ⟨#[]⟩, .slice A n cp] 25) (by simp : _ = w.heap.size + 1)
  go_enter Try.func17, Try.ntmps17
  have c0 := HO.cell 0 rfl
  go_wp2_with fail
  refine (HR.out _ HO.below).mono ?_
  rintro e w1 ⟨rfl, hb⟩
  replace HO := HO.up hb
  clear hb c0
  go_wp2_with (first | (refine wpList_load_row rfl 25 (.tmp 10) rfl (w.heap.size + 1) (by rfl) _ #[.int .i64 2, .int .u64 (a : Int), .int .u64 (b : Int), .int .u64 (c : Int), .string ⟨#[]⟩, .string ⟨#[]⟩, .int .u64 0, .int .u64 0, .string ⟨#[]⟩, .int .u64 0, .int .u64 0, .string ⟨#[]⟩, .slice A n cp] _ _ (HO.blk 0 rfl) Try.underlying25 rfl (by kernel_rfl) ?_) | (refine wpList_store_row rfl 25 (.tmp 8) (.tmp 19) rfl w.heap.size #[.int .i64 0, .int .u64 0, .int .u64 0, .int .u64 0, .string ⟨#[]⟩, .string ⟨#[]⟩, .int .u64 0, .int .u64 0, .string ⟨#[]⟩, .int .u64 0, .int .u64 0, .string ⟨#[]⟩, .slice none 0 0] (by rfl) (by rfl) _ _ (HO.blk 1 rfl) (by kernel_rfl) rfl (frC_one _ _ _ _ _ _ _ _ _ _ _ _ _ _ _) ?_))
  replace HO := HO.setRow 1 rfl #[.int .i64 0, .int .u64 0, .int .u64 0, .int .u64 0, .string ⟨#[]⟩, .string ⟨#[]⟩, .int .u64 0, .int .u64 0, .string ⟨#[]⟩, .int .u64 0, .int .u64 0, .string ⟨#[]⟩, .slice none 0 0] (L' := [(w.heap.size + 1, .cells #[.int .i64 2, .int .u64 (a : Int), .int .u64 (b : Int), .int .u64 (c : Int), .string ⟨#[]⟩, .string ⟨#[]⟩, .int .u64 0, .int .u64 0, .string ⟨#[]⟩, .int .u64 0, .int .u64 0, .string ⟨#[]⟩, .slice A n cp] 25 (0, 0)), (w.heap.size, .cells #[.int .i64 0, .int .u64 0, .int .u64 0, .int .u64 0, .string ⟨#[]⟩, .string ⟨#[]⟩, .int .u64 0, .int .u64 0, .string ⟨#[]⟩, .int .u64 0, .int .u64 0, .string ⟨#[]⟩, .slice none 0 0] 25 (0, 0))]) rfl
  have cR := HO.cell 1 rfl
  exact bodyPost_ret (v := .tuple #[.agg #[.int .i64 0, .int .u64 0, .int .u64 0, .int .u64 0, .string ⟨#[]⟩, .string ⟨#[]⟩, .int .u64 0, .int .u64 0, .string ⟨#[]⟩, .int .u64 0, .int .u64 0, .string ⟨#[]⟩, .slice none 0 0], .int .i64 1]) (by simp [results, Try.results17, go_sem, cR]) rfl ⟨rfl, HO.below⟩
set_option maxHeartbeats 4000000 in
set_option maxRecDepth 100000 in
theorem RvFrame_yes (a b c : Nat) (ks : List ByteArray) (A : Option Addr) (cp : Nat) (w : World) (hC : Kd.string.C w A ks.length ks) (hc : ks.length ≤ cp) (hn : ks.length ≤ 1000000) (hr : rightF (keyF a b c ks) = true) :
    Calls Try.prog 17 #[.int .u64 (a : Int), .int .u64 (b : Int), .int .u64 (c : Int), .slice A ks.length cp] w fun e w' => e = .returned (.tuple #[.agg #[.int .i64 2, .int .u64 (a : Int), .int .u64 (b : Int), .int .u64 (c : Int), .string ⟨#[]⟩, .string ⟨#[]⟩, .int .u64 0, .int .u64 0, .string ⟨#[]⟩, .int .u64 0, .int .u64 0, .string ⟨#[]⟩, .slice A ks.length cp], .int .i64 0]) ∧ Below w.heap.size w w' := by
  have HR := Lib.hid (fun w1 (hg : Below w.heap.size w w1) => show Calls Try.prog 8 #[.agg #[.int .i64 2, .int .u64 (a : Int), .int .u64 (b : Int), .int .u64 (c : Int), .string ⟨#[]⟩, .string ⟨#[]⟩, .int .u64 0, .int .u64 0, .string ⟨#[]⟩, .int .u64 0, .int .u64 0, .string ⟨#[]⟩, .slice A ks.length cp]] w1 (fun e w' => e = .returned (.bool (rightF (keyF a b c ks))) ∧ Below w1.heap.size w1 w') from Right_any (keyF a b c ks) A cp w1 (Kd.C_below hC hg) hc hn)
  rw [hr] at HR
  clear hC hc hn hr
  generalize ks.length = n at *
  have HO := ((Own.start w).alloc' (.cells #[.int .i64 0, .int .u64 0, .int .u64 0, .int .u64 0, .string ⟨#[]⟩, .string ⟨#[]⟩, .int .u64 0, .int .u64 0, .string ⟨#[]⟩, .int .u64 0, .int .u64 0, .string ⟨#[]⟩, .slice none 0 0] 25) rfl).alloc' (.cells #[.int .i64 2, .int .u64 (a : Int), .int .u64 (b : Int), .int .u64 (c : Int), .string ⟨#[]⟩, .string ⟨#[]⟩, .int .u64 0, .int .u64 0, .string ⟨#[]⟩, .int .u64 0, .int .u64 0, .string ⟨#[]⟩, .slice A n cp] 25) (by simp : _ = w.heap.size + 1)
  go_enter Try.func17, Try.ntmps17
  have c0 := HO.cell 0 rfl
  go_wp2_with fail
  refine (HR.out _ HO.below).mono ?_
  rintro e w1 ⟨rfl, hb⟩
  replace HO := HO.up hb
  clear hb c0
  go_wp2_with (first | (refine wpList_load_row rfl 25 (.tmp 10) rfl (w.heap.size + 1) (by rfl) _ #[.int .i64 2, .int .u64 (a : Int), .int .u64 (b : Int), .int .u64 (c : Int), .string ⟨#[]⟩, .string ⟨#[]⟩, .int .u64 0, .int .u64 0, .string ⟨#[]⟩, .int .u64 0, .int .u64 0, .string ⟨#[]⟩, .slice A n cp] _ _ (HO.blk 0 rfl) Try.underlying25 rfl (by kernel_rfl) ?_) | (refine wpList_store_row rfl 25 (.tmp 8) (.tmp 20) rfl w.heap.size #[.int .i64 2, .int .u64 (a : Int), .int .u64 (b : Int), .int .u64 (c : Int), .string ⟨#[]⟩, .string ⟨#[]⟩, .int .u64 0, .int .u64 0, .string ⟨#[]⟩, .int .u64 0, .int .u64 0, .string ⟨#[]⟩, .slice A n cp] (by rfl) (by rfl) _ _ (HO.blk 1 rfl) (by kernel_rfl) rfl (frC_one _ _ _ _ _ _ _ _ _ _ _ _ _ _ _) ?_))
  replace HO := HO.setRow 1 rfl #[.int .i64 2, .int .u64 (a : Int), .int .u64 (b : Int), .int .u64 (c : Int), .string ⟨#[]⟩, .string ⟨#[]⟩, .int .u64 0, .int .u64 0, .string ⟨#[]⟩, .int .u64 0, .int .u64 0, .string ⟨#[]⟩, .slice A n cp] (L' := [(w.heap.size + 1, .cells #[.int .i64 2, .int .u64 (a : Int), .int .u64 (b : Int), .int .u64 (c : Int), .string ⟨#[]⟩, .string ⟨#[]⟩, .int .u64 0, .int .u64 0, .string ⟨#[]⟩, .int .u64 0, .int .u64 0, .string ⟨#[]⟩, .slice A n cp] 25 (0, 0)), (w.heap.size, .cells #[.int .i64 2, .int .u64 (a : Int), .int .u64 (b : Int), .int .u64 (c : Int), .string ⟨#[]⟩, .string ⟨#[]⟩, .int .u64 0, .int .u64 0, .string ⟨#[]⟩, .int .u64 0, .int .u64 0, .string ⟨#[]⟩, .slice A n cp] 25 (0, 0))]) rfl
  have cR := HO.cell 1 rfl
  exact bodyPost_ret (v := .tuple #[.agg #[.int .i64 2, .int .u64 (a : Int), .int .u64 (b : Int), .int .u64 (c : Int), .string ⟨#[]⟩, .string ⟨#[]⟩, .int .u64 0, .int .u64 0, .string ⟨#[]⟩, .int .u64 0, .int .u64 0, .string ⟨#[]⟩, .slice A n cp], .int .i64 0]) (by simp [results, Try.results17, go_sem, cR]) rfl ⟨rfl, HO.below⟩
end Go.Proofs.Ytfghjahmnjghgaa

set_option linter.unusedSimpArgs false
set_option linter.unusedVariables false
/- LAYER 14: what its laws share. -/
namespace Go.Proofs.Ytfghjahmnjghgaa
open Go.RowKit Go.Proofs.YtfghjahmnjghgaaW.PrintWords
attribute [local irreducible] Calls
theorem few14 (A : Option Addr) (n cp : Nat) (w : World) (hc : n ≤ cp) :
    Calls Try.prog 15 #[.slice A n cp] w fun e w' => e = .returned (.slice A (min n 34) cp) ∧ w' = w := by
  by_cases h : n ≤ 34
  · rw [Nat.min_eq_left h]
    have hm1 : min (n : Int) 34 = (n : Int) := by omega
    have hm2 : (n : Int) ≤ 34 := by omega
    clear h
    go_enter Try.func15, Try.ntmps15
    go_wp2
    go_ret
    exact ⟨rfl, rfl⟩
  · rw [Nat.min_eq_right (by omega)]
    have hm1 : min (n : Int) 34 = 34 := by omega
    have hm3 : (34 : Int) ≤ (n : Int) := by omega
    have hm4 : (34 : Int) ≤ (cp : Int) := by omega
    clear h
    go_enter Try.func15, Try.ntmps15
    go_wp2
    go_ret
    exact ⟨rfl, rfl⟩
    obtain rfl : n = 34 := by omega
    go_ret
    exact ⟨rfl, rfl⟩
theorem sized_any (s : ByteArray) (w : World) : Calls Try.prog 48 #[.string s] w fun e w' => e = .returned (.bool (s.size == 32)) ∧ w' = w := by
  have e1 : ((s.size : Int) == 32) = (s.size == 32) := by rw [Bool.eq_iff_iff, beq_iff_eq, beq_iff_eq]; omega
  go_enter Try.func48, Try.ntmps48
  go_wp2
  go_ret
  exact ⟨by first | rfl | rw [← e1] | (rw [← e1]; rfl), rfl⟩
def key14 : ByteArray := ⟨#[48, 49, 50, 51, 52, 53, 54, 55, 56, 57, 97, 98, 99, 100, 101, 102, 48, 49, 50, 51, 52, 53, 54, 55, 56, 57, 97, 98, 99, 100, 101, 102]⟩
set_option maxHeartbeats 1000000 in
theorem alive14 (w : World) : Calls Try.prog 18 #[] w fun e w' => e = .returned (.bool true) ∧ Below w.heap.size w w' := by
  have HF := Lib.hid (show Calls Try.prog 17 #[.int .u64 1, .int .u64 2, .int .u64 3, .slice (some ⟨w.heap.size, 0, none⟩) 1 1] (w.alloc (.cells #[.string key14] 9)) (fun e w' => e = .returned (.tuple #[.agg #[.int .i64 2, .int .u64 1, .int .u64 2, .int .u64 3, .string ⟨#[]⟩, .string ⟨#[]⟩, .int .u64 0, .int .u64 0, .string ⟨#[]⟩, .int .u64 0, .int .u64 0, .string ⟨#[]⟩, .slice (some ⟨w.heap.size, 0, none⟩) 1 1], .int .i64 0]) ∧ Below (w.alloc (.cells #[.string key14] 9)).heap.size (w.alloc (.cells #[.string key14] 9)) w') from
    RvFrame_yes 1 2 3 [key14] (some ⟨w.heap.size, 0, none⟩) 1 (w.alloc (.cells #[.string key14] 9)) (C_lit_strF w 9 [key14] (by decide)) (Nat.le_refl 1) (by decide) (by decide +kernel))
  have HB0 := Lib.hid (below_alloc (Below.refl w.heap.size w) (.cells #[.string key14] 9))
  unfold key14 at *
  go_enter Try.func18, Try.ntmps18
  go_wp2_with fail
  refine HF.out.mono ?_
  rintro e w1 ⟨rfl, hb⟩
  have HO := (Own.start w).up (below_step HB0.out hb)
  clear hb
  replace HO := HO.alloc' (.cells #[.int .i64 2, .int .u64 1, .int .u64 2, .int .u64 3, .string ⟨#[]⟩, .string ⟨#[]⟩, .int .u64 0, .int .u64 0, .string ⟨#[]⟩, .int .u64 0, .int .u64 0, .string ⟨#[]⟩, .slice (some ⟨w.heap.size, 0, none⟩) 1 1] 25) rfl
  have c0 := HO.cell 0 rfl
  go_wp2
  go_ret
  exact ⟨rfl, HO.below⟩
end Go.Proofs.Ytfghjahmnjghgaa

set_option linter.unusedSimpArgs false
set_option linter.unusedVariables false
/- slices.Clone of texts. -/
namespace Go.Proofs.Ytfghjahmnjghgaa
open Go.RowKit Go.Proofs.YtfghjahmnjghgaaW.PrintWords
attribute [local irreducible] Calls
set_option maxHeartbeats 2000000 in
set_option maxRecDepth 100000 in
theorem Clone_R (A : Option Addr) (n cp : Nat) (xs : List ByteArray) (w : World) (hC : Kd.string.C w A n xs) (hn : n ≤ 1000000) :
    Calls Try.prog 35 #[.slice A n cp] w fun e w' => (∃ v, e = .returned v ∧ Kd.string.R 9 w' w.heap.size (fun _ => True) v xs) ∧ Below w.heap.size w w' := by
  have hl := hC.1
  rcases A with _ | ad
  · have h0 : n = 0 := by
      rcases Nat.eq_zero_or_pos n with h0 | h0
      · exact h0
      · obtain ⟨ad, h', _⟩ := hC.2.2 h0
        cases h'
    subst h0
    obtain rfl : xs = [] := List.eq_nil_of_length_eq_zero hl
    clear hC hl
    go_enter Try.func35, Try.ntmps35
    go_wp2_with fail
    rw [Lib.run_eql_slice_nil _ _ _ none 0 cp 0 0 Try.underlying23]
    go_wp2
    go_ret
    exact ⟨⟨_, rfl, Kd.R_nil _ _ _ _ _⟩, Below.refl _ _⟩
  · have HC := Lib.hid (fun w1 (hg : Below w.heap.size w w1) => Kd.C_below hC hg)
    have HR0 := Lib.hid (Aside0.mk (R_empty_lit Kd.string w w.heap.size 9 (Nat.le_refl _)))
    have HB0 := Lib.hid (below_alloc (Below.refl w.heap.size w) (.cells #[] 9))
    have HL := Lib.hid hl
    clear hC hl
    go_enter Try.func35, Try.ntmps35
    go_wp2_with fail
    rw [Lib.run_eql_slice_nil _ _ _ (some ad) n cp 0 0 Try.underlying23]
    go_wp2_with (at_builtin; refine app_rows Kd.string (w0 := w) (.tmp 5) (.tmp 6) 23 9 (.string ⟨#[]⟩) 16 rfl rfl Try.underlying23 info_strF rfl (by decide) (by decide) (fun _ _ h => h) _ [] xs (some ad) n cp rfl rfl HR0.out (HC.out _ HB0.out) ⟨HB0.out⟩ (by simp; omega) ?_; intro v1 w9 hR9 hb9 _)
    go_ret
    exact ⟨⟨_, rfl, hR9.out⟩, hb9.out⟩
/-- new cells: none lies behind base -/
def OutN (base : Nat) (w : World) (v : Value) (xs : List ByteArray) : Prop :=
  ∃ A c, v = .slice A xs.length c ∧ xs.length ≤ c ∧ c ≤ 9223372036854775807 ∧ Kd.string.C w A xs.length xs ∧ ∀ ad : Addr, A = some ad → 0 < xs.length → base ≤ ad.block
theorem OutN_R {e base : Nat} {ok : Nat → Prop} {w : World} {v : Value} {xs : List ByteArray} (h : Kd.string.R e w base ok v xs) : OutN base w v xs := by
  obtain ⟨A, c, rfl, h1, h2, h3⟩ := R_OutCF h
  refine ⟨A, c, rfl, h1, h2, h3, fun ad hA hn => ?_⟩
  subst hA
  obtain ⟨_, inner, ho, _⟩ := h
  rcases ho.2 with ⟨e1, h0⟩ | ⟨g, cap, cur, e1, hb, _⟩
  · omega
  · injection e1 with e1 _ _
    injection e1 with e1
    subst e1
    exact hb
theorem OutN.out {base : Nat} {w : World} {v : Value} {xs : List ByteArray} (h : OutN base w v xs) : Out Kd.string w v xs := by
  obtain ⟨A, c, rfl, h1, h2, h3, _⟩ := h
  exact ⟨A, c, rfl, h1, h2, h3⟩
theorem OutN.far {base : Nat} {w w' : World} {v : Value} {xs : List ByteArray} (h : OutN base w v xs) (hk : ∀ i, base ≤ i → w'.heap[i]? = w.heap[i]?) : OutN base w' v xs := by
  obtain ⟨A, c, rfl, h1, h2, hC, hb⟩ := h
  refine ⟨A, c, rfl, h1, h2, ⟨hC.1, hC.2.1, fun hp => ?_⟩, hb⟩
  obtain ⟨ad, e, hc⟩ := hC.2.2 hp
  refine ⟨ad, e, fun i p hi => ?_⟩
  obtain ⟨c, hl, hK, hcell⟩ := hc i p hi
  refine ⟨c, hl, hK, fun k v hk' => ?_⟩
  refine (World.cell?_of_block ?_).trans (hcell k v hk')
  exact hk _ (by have := hb ad e hp; unfold Addr.add; split <;> exact this)
end Go.Proofs.Ytfghjahmnjghgaa

set_option linter.unusedSimpArgs false
set_option linter.unusedVariables false
/- LAYER 8: frames' bytes, plainly. -/
namespace Go.Proofs.Ytfghjahmnjghgaa
open Go.RowKit Go.Proofs.YtfghjahmnjghgaaW.PrintWords
/-- numbers that may be -/
def okF (f : FrD) : Prop := f.a < 18446744073709551616 ∧ f.b < 18446744073709551616 ∧ f.c < 18446744073709551616 ∧ f.sg < 18446744073709551616 ∧ f.on < 18446744073709551616 ∧ f.pv < 18446744073709551616 ∧ f.nn < 18446744073709551616
theorem right_parts (f : FrD) (h : rightF f = true) : 0 ≤ f.kd ∧ f.kd ≤ 2 ∧ f = ofF f ∧ f.bo.size ≤ 1024 ∧ f.keys.length ≤ 32 ∧ oddL (pointsF f) = false := by
  unfold rightF likeF at h
  simp only [Bool.and_eq_true, decide_eq_true_eq, Bool.not_eq_true'] at h
  obtain ⟨⟨⟨⟨⟨h1, h2⟩, h3⟩, h4⟩, h5⟩, h6⟩ := h
  exact ⟨h1, h2, h3, h4, h5, h6⟩
theorem odd_no {l : List ByteArray} (h : oddL l = false) : ∀ x ∈ l, x.size = 32 := by
  intro x hx
  unfold oddL at h
  rw [List.any_eq_false] at h
  have := h x hx
  simpa using this
/-- what is known of a frame that may be -/
theorem right_sizes (f : FrD) (h : rightF f = true) : (f.kd = 0 → f.i.size = 32 ∧ f.ba.size = 32) ∧ (f.kd ≠ 2 → f.ra.size = 32) ∧ (f.kd = 2 → ∀ x ∈ f.keys, x.size = 32) := by
  obtain ⟨_, _, _, _, _, ho⟩ := right_parts f h
  have hq := odd_no ho
  unfold pointsF at hq
  refine ⟨fun h0 => ?_, fun h2 => ?_, fun h2 => ?_⟩
  · rw [if_neg (by omega), if_pos h0] at hq
    exact ⟨hq _ (by simp), hq _ (by simp)⟩
  · rw [if_neg h2] at hq
    by_cases h0 : f.kd = 0
    · rw [if_pos h0] at hq; exact hq _ (by simp)
    · rw [if_neg h0] at hq; exact hq _ (by simp)
  · rw [if_pos h2] at hq; exact hq
end Go.Proofs.Ytfghjahmnjghgaa

set_option linter.unusedSimpArgs false
set_option linter.unusedVariables false
/- LAYER 8: which frames may be, and which two are the same, as the document says. -/
namespace Go.Proofs.Ytfghjahmnjghgaa
open Go.RowKit Go.Proofs.YtfghjahmnjghgaaW.PrintWords Go.Proofs.YtfghjahmnjghgaaW.PrintLast Go.Proofs.YtfghjahmnjghgaaW.PrintMore Go.Proofs.Ytfghjahmnjghgaa.PFr
theorem tl_nil (s : ByteArray) : s.toList = ([] : List UInt8) ↔ s = ⟨#[]⟩ := by
  rw [ByteArray.toList_eq]
  constructor
  · intro h; exact ByteArray.ext (Array.ext' h)
  · intro h; rw [h]
theorem tl_eq (s t : ByteArray) : s.toList = t.toList ↔ s = t := by
  rw [ByteArray.toList_eq, ByteArray.toList_eq]
  exact ⟨fun h => ByteArray.ext (Array.ext' h), fun h => by rw [h]⟩
theorem like_0 (f : FrD) (h : f.kd = 0) : f = ofF f ↔ f.keys = [] := by
  cases f; simp only at h; subst h; unfold ofF; simp
theorem like_1 (f : FrD) (h : f.kd = 1) : f = ofF f ↔ (f.i = ⟨#[]⟩ ∧ f.ba = ⟨#[]⟩ ∧ f.sg = 0 ∧ f.on = 0 ∧ f.keys = []) := by
  cases f; simp only at h; subst h; unfold ofF; simp
theorem like_2 (f : FrD) (h : f.kd = 2) : f = ofF f ↔ (f.i = ⟨#[]⟩ ∧ f.ba = ⟨#[]⟩ ∧ f.sg = 0 ∧ f.on = 0 ∧ f.ra = ⟨#[]⟩ ∧ f.pv = 0 ∧ f.nn = 0 ∧ f.bo = ⟨#[]⟩) := by
  cases f; simp only at h; subst h; unfold ofF; simp
theorem right_of (f : FrD) (h1 : 0 ≤ f.kd) (h2 : f.kd ≤ 2) (h3 : f = ofF f) (h4 : f.bo.size ≤ 1024) (h5 : f.keys.length ≤ 32) (h6 : oddL (pointsF f) = false) : rightF f = true := by
  unfold rightF likeF
  rw [decide_eq_true h1, decide_eq_true h2, decide_eq_true h3, decide_eq_true h4, decide_eq_true h5, h6]; rfl
theorem odd_of (l : List ByteArray) (h : ∀ x ∈ l, x.size = 32) : oddL l = false := by
  unfold oddL
  rw [List.any_eq_false]
  intro x hx
  rw [h x hx]; decide
theorem keys_l0 (xs : List ByteArray) (hn : xs.length ≤ 1000000) (k : Nat) : ∀ m i, i + m = xs.length → demurralref08_keys.l0 (k + m + 1) xs xs (xs.length : Int) (i : Int) = some (!(oddL (xs.drop i)) && decide (xs.length ≤ 32))
  | 0, i, h => by
    obtain rfl : i = xs.length := h
    rw [demurralref08_keys.l0, if_neg (by omega), List.drop_length]
    have : decide ((xs.length : Int) ≤ 32) = decide (xs.length ≤ 32) := by
      by_cases hh : xs.length ≤ 32
      · rw [decide_eq_true hh, decide_eq_true (by omega)]
      · rw [decide_eq_false hh, decide_eq_false (by omega)]
    rw [this]; rfl
  | m + 1, i, h => by
    have w3 : wrap64 ((i : Int) + 1) = ((i + 1 : Nat) : Int) := by unfold wrap64; omega
    obtain ⟨x, hx⟩ : ∃ y, xs[i]? = some y := ⟨_, List.getElem?_eq_getElem (by omega)⟩
    have hr1 : rdOf ByteArray.empty xs (i : Int) = x := by
      unfold rdOf
      rw [Int.toNat_natCast, List.getD_eq_getElem?_getD, hx]; rfl
    have hd1 : xs.drop i = x :: xs.drop (i + 1) := by
      rw [List.drop_eq_getElem_cons (by omega)]
      rw [List.getElem?_eq_getElem (by omega)] at hx
      rw [Option.some.inj hx]
    rw [demurralref08_keys.l0, if_pos (by omega), if_pos (by omega), if_pos (by omega), hr1, hd1]
    by_cases hq : x.size = 32
    · rw [if_pos (by omega), w3, show k + (m + 1) = k + m + 1 from rfl, keys_l0 xs hn k m (i + 1) (by omega)]
      unfold oddL
      rw [List.any_cons, hq]; rfl
    · rw [if_neg (by omega)]
      unfold oddL
      rw [List.any_cons, show (x.size == 32) = false from by rw [beq_eq_false_iff_ne]; exact hq]; rfl
theorem keys_f (xs : List ByteArray) (hn : xs.length ≤ 1000000) (k : Nat) : demurralref08_keys.f (k + xs.length + 1) xs = some (!(oddL xs) && decide (xs.length ≤ 32)) :=
  keys_l0 xs hn k xs.length 0 (by omega)
theorem j0_true (f : FrD) (k : Nat) : demurralref08_Right.j0 (k + 1) true f.kd f.a f.b f.c f.i f.ba f.sg f.on f.ra f.pv f.nn f.bo f.keys = some false := by
  rw [demurralref08_Right.j0, if_pos rfl]
theorem not_right {f : FrD} {p : Prop} (hp : ¬ p) (h : rightF f = true → p) : some false = some (rightF f) := by
  rw [Bool.eq_false_iff.2 (fun hr => hp (h hr))]
theorem RRight_f (f : FrD) (hn : f.keys.length ≤ 1000000) (k : Nat) : demurralref08_Right.f (k + f.keys.length + 1 + 1) f.kd f.a f.b f.c f.i f.ba f.sg f.on f.ra f.pv f.nn f.bo f.keys = some (rightF f) := by
  unfold demurralref08_Right.f
  by_cases k0 : f.kd = 0
  · rw [if_pos k0]
    by_cases q1 : f.i.size = 32
    · rw [if_pos (by omega)]
      by_cases q2 : f.ba.size = 32
      · rw [if_pos (by omega)]
        by_cases q3 : f.ra.size = 32
        · rw [if_pos (by omega)]
          by_cases q4 : f.bo.size ≤ 1024
          · rw [if_pos (by omega)]
            by_cases q5 : f.keys = []
            · rw [right_of f (by omega) (by omega) ((like_0 f k0).2 q5) q4 (by rw [q5]; decide) (by
                unfold pointsF
                rw [if_neg (by omega), if_pos k0]
                refine odd_of _ fun x hx => ?_
                simp only [List.mem_cons, List.not_mem_nil, or_false] at hx
                rcases hx with rfl | rfl | rfl <;> assumption), q5]; rfl
            · rw [show ((f.keys.length : Int) == 0) = false from by
                rw [beq_eq_false_iff_ne]
                intro h
                exact q5 (List.length_eq_zero_iff.1 (by omega))]
              exact not_right q5 (fun hr => (like_0 f k0).1 (right_parts f hr).2.2.1)
          · rw [if_neg (by omega)]
            exact not_right q4 (fun hr => (right_parts f hr).2.2.2.1)
        · rw [if_neg (by omega)]
          exact not_right q3 (fun hr => (right_sizes f hr).2.1 (by omega))
      · rw [if_neg (by omega)]
        exact not_right q2 (fun hr => ((right_sizes f hr).1 k0).2)
    · rw [if_neg (by omega)]
      exact not_right q1 (fun hr => ((right_sizes f hr).1 k0).1)
  · rw [if_neg k0]
    have hcase : ∀ {p : Prop}, ¬ p → (f.kd = 1 → f = ofF f → p) → (f.kd = 2 → f = ofF f → p) → some false = some (rightF f) := fun hp h1 h2 => not_right hp (fun hr => by
      obtain ⟨a1, a2, a3, _⟩ := right_parts f hr
      have : f.kd = 1 ∨ f.kd = 2 := by omega
      rcases this with h | h
      · exact h1 h a3
      · exact h2 h a3)
    by_cases q1 : f.i = ⟨#[]⟩
    · rw [if_pos ((tl_nil _).2 q1)]
      by_cases q2 : f.ba = ⟨#[]⟩
      · rw [if_pos ((tl_nil _).2 q2)]
        by_cases q3 : f.sg = 0
        · rw [if_pos (by omega)]
          by_cases q4 : f.on = 0
          · rw [show ((f.on : Int) != 0) = false from by rw [q4]; rfl]
            rw [demurralref08_Right.j0, if_neg (by decide)]
            by_cases k1 : f.kd = 1
            · rw [if_pos k1]
              by_cases q5 : f.ra.size = 32
              · rw [if_pos (by omega)]
                by_cases q6 : f.bo.size ≤ 1024
                · rw [if_pos (by omega)]
                  by_cases q7 : f.keys = []
                  · rw [right_of f (by omega) (by omega) ((like_1 f k1).2 ⟨q1, q2, q3, q4, q7⟩) q6 (by rw [q7]; decide) (by
                      unfold pointsF
                      rw [if_neg (by omega), if_neg k0]
                      refine odd_of _ fun x hx => ?_
                      obtain rfl := List.mem_singleton.1 hx
                      exact q5), q7]; rfl
                  · rw [show ((f.keys.length : Int) == 0) = false from by
                      rw [beq_eq_false_iff_ne]
                      intro h
                      exact q7 (List.length_eq_zero_iff.1 (by omega))]
                    exact not_right q7 (fun hr => ((like_1 f k1).1 (right_parts f hr).2.2.1).2.2.2.2)
                · rw [if_neg (by omega)]
                  exact not_right q6 (fun hr => (right_parts f hr).2.2.2.1)
              · rw [if_neg (by omega)]
                exact not_right q5 (fun hr => (right_sizes f hr).2.1 (by omega))
            · rw [if_neg k1]
              by_cases k2 : f.kd = 2
              · rw [if_pos k2]
                by_cases q5 : f.ra = ⟨#[]⟩
                · rw [if_pos ((tl_nil _).2 q5)]
                  by_cases q6 : f.bo = ⟨#[]⟩
                  · rw [if_pos ((tl_nil _).2 q6)]
                    by_cases q7 : f.pv = 0
                    · rw [if_pos (by omega)]
                      by_cases q8 : f.nn = 0
                      · rw [if_pos (by omega), keys_f f.keys hn k, Option.bind_some]
                        refine congrArg some ?_
                        have hb : f.bo.size ≤ 1024 := by rw [q6]; decide
                        have hp : pointsF f = f.keys := by unfold pointsF; rw [if_pos k2]
                        unfold rightF likeF
                        rw [decide_eq_true (show 0 ≤ f.kd by omega), decide_eq_true (show f.kd ≤ 2 by omega), decide_eq_true ((like_2 f k2).2 ⟨q1, q2, q3, q4, q5, q7, q8, q6⟩), decide_eq_true hb, hp, Bool.and_comm]
                        rfl
                      · rw [if_neg (by omega)]
                        exact not_right q8 (fun hr => ((like_2 f k2).1 (right_parts f hr).2.2.1).2.2.2.2.2.2.1)
                    · rw [if_neg (by omega)]
                      exact not_right q7 (fun hr => ((like_2 f k2).1 (right_parts f hr).2.2.1).2.2.2.2.2.1)
                  · rw [if_neg (fun h => q6 ((tl_nil _).1 h))]
                    exact not_right q6 (fun hr => ((like_2 f k2).1 (right_parts f hr).2.2.1).2.2.2.2.2.2.2)
                · rw [if_neg (fun h => q5 ((tl_nil _).1 h))]
                  exact not_right q5 (fun hr => ((like_2 f k2).1 (right_parts f hr).2.2.1).2.2.2.2.1)
              · rw [if_neg k2]
                exact not_right (p := f.kd = 1 ∨ f.kd = 2) (by omega) (fun hr => by obtain ⟨a1, a2, _⟩ := right_parts f hr; omega)
          · rw [show ((f.on : Int) != 0) = true from by rw [bne_iff_ne]; omega, j0_true]
            exact hcase q4 (fun h e => ((like_1 f h).1 e).2.2.2.1) (fun h e => ((like_2 f h).1 e).2.2.2.1)
        · rw [if_neg (by omega), j0_true]
          exact hcase q3 (fun h e => ((like_1 f h).1 e).2.2.1) (fun h e => ((like_2 f h).1 e).2.2.1)
      · rw [if_neg (fun h => q2 ((tl_nil _).1 h)), j0_true]
        exact hcase q2 (fun h e => ((like_1 f h).1 e).2.1) (fun h e => ((like_2 f h).1 e).2.1)
    · rw [if_neg (fun h => q1 ((tl_nil _).1 h)), j0_true]
      exact hcase q1 (fun h e => ((like_1 f h).1 e).1) (fun h e => ((like_2 f h).1 e).1)
theorem not_like {f g : FrD} {p : Prop} (hp : ¬ p) (h : f = g → p) : some false = some (likeF f g) := by
  unfold likeF
  rw [decide_eq_false (fun e => hp (h e))]
attribute [local irreducible] Calls
theorem RRight_fr (f : FrD) (A : Option Addr) (c : Nat) (w : World) (hC : Kd.string.C w A f.keys.length f.keys) (hc : f.keys.length ≤ c) (hn : f.keys.length ≤ 1000000) :
    Calls Try.prog 9 #[frV f (.slice A f.keys.length c)] w fun e w' => e = .returned (.bool (rightF f)) ∧ Below w.heap.size w w' := by
  refine (demurralref08_Right.calls (0 + f.keys.length + 1 + 1) f.kd f.a f.b f.c f.i f.ba f.sg f.on f.ra f.pv f.nn f.bo A c f.keys _ w hC hc (RRight_f f hn 0)).mono ?_
  rintro e w' ⟨rfl, h⟩
  exact ⟨rfl, by first | exact h | exact h.below⟩
end Go.Proofs.Ytfghjahmnjghgaa

namespace Go.Proofs.Ytfghjahmnjghgaa
open Go.RowKit Go.Proofs.YtfghjahmnjghgaaW.PrintWords Go.ChangeShapes Go.WideShapes Go.Deep
theorem u64_bounds {k : Int} (h : (Lit.int .u64 k).wf = true) : 0 ≤ k ∧ k < 18446744073709551616 := by
  simp [Lit.wf, IntKind.min, IntKind.max, IntKind.signed, IntKind.bits] at h
  omega
section
variable {H : Type} {enc : TypeId × Value → H} {P : Program} {W : World}
/-- A slice argument, opened: each element by its own kind. -/
theorem open_C {α : Type} [Inhabited α] (k : Kd α) (WF : α → Prop) {t e : TypeId} (ht : P.underlying t = some (.slice e)) (hsz : P.cellsOf e = k.sz)
    (hel : ∀ n cs y, DataW.trod enc P W 0 (fun _ => true) true n e cs = some y → ∃ x, k.K W x cs ∧ WF x) {a : Option Addr} {len cap : Nat} {d : DataW H} {p : List MemPlace}
    (h : DataW.Trod enc P W 0 (fun _ => true) true t (.slice a len cap) d p) : ∃ xs, k.C W a len xs ∧ len ≤ cap ∧ cap ≤ 9223372036854775807 ∧ ∀ x ∈ xs, WF x := by
  obtain ⟨fuel, hf⟩ := h
  rcases open_slice ht hf with ⟨hcs, _⟩ | ⟨x, l, c, m, n, D, Pl, hcs, _, hl, hm, hmm, _, hx⟩
  · simp [Value.cells] at hcs
    obtain ⟨rfl, rfl, rfl⟩ := hcs
    exact ⟨[], Kd.C_nil k W, Nat.le_refl _, by omega, by simp⟩
  · simp [Value.cells] at hcs
    obtain ⟨rfl, rfl, rfl⟩ := hcs
    simp at hmm
    subst hmm
    have hm' : m ≤ 9223372036854775807 := by simpa [maxLen] using hm
    obtain ⟨f, hf⟩ := choose_lt (p := fun i (y : α) => ∃ cs, W.cells? 0 (x.add (i * P.cellsOf e)) (P.cellsOf e) = some cs ∧ k.K W y cs ∧ WF y) (fun i hi => by
      obtain ⟨cs, h1, h2⟩ := hx i hi
      obtain ⟨y, h3, h4⟩ := hel _ _ _ h2
      exact ⟨y, cs, h1, h3, h4⟩)
    refine ⟨(List.range len).map f, ⟨by simp, by omega, fun _ => ⟨x, rfl, fun j q hj => ?_⟩⟩, hl, hm', ?_⟩
    · have hj' : j < len := by have := (List.getElem?_eq_some_iff.1 hj).1; simpa using this
      have hq : f j = q := by simpa [List.getElem?_range hj'] using hj
      subst hq
      obtain ⟨cs, h1, h2, _⟩ := hf j (by omega)
      obtain ⟨_, h3, h4⟩ := World.cells?_some h1
      refine ⟨cs, by rw [k.K_len h2], h2, fun i u hu => ?_⟩
      have := h4 i (by have := (List.getElem?_eq_some_iff.1 hu).1; omega)
      rw [← hsz, ← Deep.add_add, this]; exact hu
    · intro y hy
      obtain ⟨i, hi, rfl⟩ := List.mem_map.1 hy
      obtain ⟨_, _, _, h⟩ := hf i (by have := List.mem_range.1 hi; omega)
      exact h
end
end Go.Proofs.Ytfghjahmnjghgaa

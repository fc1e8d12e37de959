import Derived.Test.YtfghjahmnjghgaaProg
import Derived.Test.YtfghjahmnjghgaaWireP
import Derived.Test.YtfghjahmnjghgaaSeq
import Derived.Deep.LoopGhost
set_option linter.unusedVariables false
set_option linter.unusedSimpArgs false
/- LAYER 8: the frame that parts tell. -/
namespace Go.Proofs.Ytfghjahmnjghgaa
open Go.RowKit Go.Proofs.YtfghjahmnjghgaaW.PrintWords
def numP (n : Nat) : PartD := ⟨false, n, ⟨#[]⟩⟩
def txtP (s : ByteArray) : PartD := ⟨true, 0, s⟩
/-- a frame's cells -/
def frC (kd : Int) (a b c : Nat) (i ba : ByteArray) (sg on : Nat) (ra : ByteArray) (pv nn : Nat) (bo : ByteArray) (sl : Value) : Array Value :=
  #[.int .i64 kd, .int .u64 (a : Int), .int .u64 (b : Int), .int .u64 (c : Int), .string i, .string ba, .int .u64 (sg : Int), .int .u64 (on : Int), .string ra, .int .u64 (pv : Int), .int .u64 (nn : Int), .string bo, sl]
theorem frC_one (kd : Int) (a b c : Nat) (i ba : ByteArray) (sg on : Nat) (ra : ByteArray) (pv nn : Nat) (bo : ByteArray) (A : Option Addr) (n cp : Nat) : (frC kd a b c i ba sg on ra pv nn bo (.slice A n cp)).all (·.oneCell') = true := by
  rw [Array.all_eq_true_iff_forall_mem]
  intro x hx
  simp only [frC, List.mem_toArray, List.mem_cons, List.not_mem_nil, or_false] at hx
  rcases hx with rfl | rfl | rfl | rfl | rfl | rfl | rfl | rfl | rfl | rfl | rfl | rfl | rfl <;> rfl
theorem kP_cells {w : World} {A : Option Addr} {n : Nat} {xs : List PartD} (h : Kd.C kP w A n xs) (h0 : 0 < n) : ∃ bk o, A = some ⟨bk, o, none⟩ ∧ (∀ j p, xs[j]? = some p → w.cell? ⟨bk, o + j * 3, none⟩ = some (.bool p.text) ∧ w.cell? ⟨bk, o + j * 3 + 1, none⟩ = some (.int .u64 (p.n : Int)) ∧ w.cell? ⟨bk, o + j * 3 + 2, none⟩ = some (.string p.s)) ∧ bk < w.heap.size := by
  obtain ⟨ad, p0, hA, _, h1, _⟩ := kP_at h 0 h0
  have ha : ad.add (0 * 3) = ad := by unfold Addr.add; simp
  rw [ha] at h1
  have hsp : ad.spot = none ∧ ad.block < w.heap.size := by
    unfold World.cell? at h1
    split at h1
    · rename_i hb
      split at h1
      · cases h1
      · rename_i hs
        refine ⟨by cases hq : ad.spot with | none => rfl | some _ => simp [hq] at hs, (Array.getElem?_eq_some_iff.1 hb).1⟩
    · cases h1
  obtain ⟨bk, of, sp⟩ := ad
  obtain rfl : sp = none := hsp.1
  refine ⟨bk, of, hA, fun j p hj => ?_, hsp.2⟩
  have hjn : j < n := by have := h.1; have := (List.getElem?_eq_some_iff.1 hj).1; omega
  obtain ⟨ad2, p2, hA2, hp2, g1, g2, g3⟩ := kP_at h j hjn
  obtain rfl := Option.some.inj (hA.symm.trans hA2)
  obtain rfl := Option.some.inj (hj.symm.trans hp2)
  rw [Addr.add_mid] at g1 g2 g3
  exact ⟨g1, g2, g3⟩
attribute [local irreducible] Calls
set_option maxHeartbeats 8000000 in
set_option maxRecDepth 100000 in
theorem of_hello (A : Option Addr) (cp : Nat) (a b c : Nat) (i ba : ByteArray) (sg on : Nat) (ra : ByteArray) (pv nn : Nat) (bo : ByteArray) (w : World) (hC : Kd.C kP w A 12 [numP 0, numP a, numP b, numP c, txtP i, txtP ba, numP sg, numP on, txtP ra, numP pv, numP nn, txtP bo]) (hcp : 12 ≤ cp) :
    Calls Try.prog 27 #[.slice A 12 cp] w fun e w' => e = .returned (.agg (frC 0 a b c i ba sg on ra pv nn bo (.slice none 0 0))) ∧ Below w.heap.size w w' := by
  obtain ⟨bk, o, rfl, hcell, _⟩ := kP_cells hC (by decide)
  have d1 : w.cell? ⟨bk, o + 1, none⟩ = some (.int .u64 0) := (hcell 0 _ rfl).2.1
  have d4 : w.cell? ⟨bk, o + 4, none⟩ = some (.int .u64 (a : Int)) := (hcell 1 _ rfl).2.1
  have d7 : w.cell? ⟨bk, o + 7, none⟩ = some (.int .u64 (b : Int)) := (hcell 2 _ rfl).2.1
  have d10 : w.cell? ⟨bk, o + 10, none⟩ = some (.int .u64 (c : Int)) := (hcell 3 _ rfl).2.1
  have d14 : w.cell? ⟨bk, o + 14, none⟩ = some (.string i) := (hcell 4 _ rfl).2.2
  have d17 : w.cell? ⟨bk, o + 17, none⟩ = some (.string ba) := (hcell 5 _ rfl).2.2
  have d19 : w.cell? ⟨bk, o + 19, none⟩ = some (.int .u64 (sg : Int)) := (hcell 6 _ rfl).2.1
  have d22 : w.cell? ⟨bk, o + 22, none⟩ = some (.int .u64 (on : Int)) := (hcell 7 _ rfl).2.1
  have d26 : w.cell? ⟨bk, o + 26, none⟩ = some (.string ra) := (hcell 8 _ rfl).2.2
  have d28 : w.cell? ⟨bk, o + 28, none⟩ = some (.int .u64 (pv : Int)) := (hcell 9 _ rfl).2.1
  have d31 : w.cell? ⟨bk, o + 31, none⟩ = some (.int .u64 (nn : Int)) := (hcell 10 _ rfl).2.1
  have d35 : w.cell? ⟨bk, o + 35, none⟩ = some (.string bo) := (hcell 11 _ rfl).2.2
  clear hC hcell
  have HO := (Own.start w).alloc' (.cells #[.int .i64 0, .int .u64 0, .int .u64 0, .int .u64 0, .string ⟨#[]⟩, .string ⟨#[]⟩, .int .u64 0, .int .u64 0, .string ⟨#[]⟩, .int .u64 0, .int .u64 0, .string ⟨#[]⟩, .slice none 0 0] 25) rfl
  go_enter Try.func27, Try.ntmps27
  go_wp2_with fail
  refine bstart (fun w => w.heap.size) (n := 20) (ds := [19]) #[false, false, false, false, false, false, false, false, false, false, false, false, false, false, false, false, false, false, false, false] (by kernel_rfl) rfl rfl (Nat.le_refl _) (fun HBS => ?_)
  refine bseq (m := 2) (.inl rfl) [(0, true, some 6), (1, true, some 7), (2, true, some 8), (5, true, some 11), (6, true, some 12), (7, true, some 13), (9, true, some 15), (10, true, some 16), (11, true, some 17), (13, true, some 19), (14, true, some 20), (15, true, some 21), (3, true, some 9), (4, true, some 10), (8, true, some 14), (12, true, some 18), (16, true, some 22), (17, true, some 23)] #[true, true, true, true, true, true, true, true, true, true, true, true, true, true, true, true, true, true, false, false] HBS (by kernel_rfl) rfl (fun _ _ _ _ _ h => h) ?_
  (refine sP (v := ?_) (a' := ?_) rfl rfl (by rfl) ?_ ?_ ?_; rotate_left 2; (· intro w'; go_simp; with_reducible rfl); (· simp only [Act.put, List.setIfInBounds_toArray, List.set_cons_zero, List.set_cons_succ, kw64, kw32]; rfl))
  (refine sP (v := ?_) (a' := ?_) rfl rfl (by rfl) ?_ ?_ ?_; rotate_left 2; (· intro w'; go_simp; with_reducible rfl); (· simp only [Act.put, List.setIfInBounds_toArray, List.set_cons_zero, List.set_cons_succ, kw64, kw32]; rfl))
  (refine sP (v := ?_) (a' := ?_) rfl rfl (by rfl) ?_ ?_ ?_; rotate_left 2; (· intro w'; go_simp; with_reducible rfl); (· simp only [Act.put, List.setIfInBounds_toArray, List.set_cons_zero, List.set_cons_succ, kw64, kw32]; rfl))
  (refine sP (v := ?_) (a' := ?_) rfl rfl (by rfl) ?_ ?_ ?_; rotate_left 2; (· intro w'; go_simp; with_reducible rfl); (· simp only [Act.put, List.setIfInBounds_toArray, List.set_cons_zero, List.set_cons_succ, kw64, kw32]; rfl))
  (refine sP (v := ?_) (a' := ?_) rfl rfl (by rfl) ?_ ?_ ?_; rotate_left 2; (· intro w'; go_simp; with_reducible rfl); (· simp only [Act.put, List.setIfInBounds_toArray, List.set_cons_zero, List.set_cons_succ, kw64, kw32]; rfl))
  (refine sP (v := ?_) (a' := ?_) rfl rfl (by rfl) ?_ ?_ ?_; rotate_left 2; (· intro w'; go_simp; with_reducible rfl); (· simp only [Act.put, List.setIfInBounds_toArray, List.set_cons_zero, List.set_cons_succ, kw64, kw32]; rfl))
  (refine sP (v := ?_) (a' := ?_) rfl rfl (by rfl) ?_ ?_ ?_; rotate_left 2; (· intro w'; go_simp; with_reducible rfl); (· simp only [Act.put, List.setIfInBounds_toArray, List.set_cons_zero, List.set_cons_succ, kw64, kw32]; rfl))
  (refine sP (v := ?_) (a' := ?_) rfl rfl (by rfl) ?_ ?_ ?_; rotate_left 2; (· intro w'; go_simp; with_reducible rfl); (· simp only [Act.put, List.setIfInBounds_toArray, List.set_cons_zero, List.set_cons_succ, kw64, kw32]; rfl))
  (refine sP (v := ?_) (a' := ?_) rfl rfl (by rfl) ?_ ?_ ?_; rotate_left 2; (· intro w'; go_simp; with_reducible rfl); (· simp only [Act.put, List.setIfInBounds_toArray, List.set_cons_zero, List.set_cons_succ, kw64, kw32]; rfl))
  (refine sP (v := ?_) (a' := ?_) rfl rfl (by rfl) ?_ ?_ ?_; rotate_left 2; (· intro w'; go_simp; with_reducible rfl); (· simp only [Act.put, List.setIfInBounds_toArray, List.set_cons_zero, List.set_cons_succ, kw64, kw32]; rfl))
  (refine sP (v := ?_) (a' := ?_) rfl rfl (by rfl) ?_ ?_ ?_; rotate_left 2; (· intro w'; go_simp; with_reducible rfl); (· simp only [Act.put, List.setIfInBounds_toArray, List.set_cons_zero, List.set_cons_succ, kw64, kw32]; rfl))
  (refine sP (v := ?_) (a' := ?_) rfl rfl (by rfl) ?_ ?_ ?_; rotate_left 2; (· intro w'; go_simp; with_reducible rfl); (· simp only [Act.put, List.setIfInBounds_toArray, List.set_cons_zero, List.set_cons_succ, kw64, kw32]; rfl))
  (refine sB (v := ?_) (a' := ?_) rfl rfl (by rfl) ?_ ?_ ?_; rotate_left 2; (· intro w1 hg; have e1 := pw_cell_below (HO.up hg).below d1; have e4 := pw_cell_below (HO.up hg).below d4; have e7 := pw_cell_below (HO.up hg).below d7; have e10 := pw_cell_below (HO.up hg).below d10; go_simp; with_reducible rfl); (· simp only [Act.put, List.setIfInBounds_toArray, List.set_cons_zero, List.set_cons_succ, kw64, kw32]; rfl))
  (refine sP (v := .int .i64 0) (a' := ?_) rfl rfl (by rfl) ?_ ?_ ?_; rotate_left 1; (· intro w'; go_simp; try rfl); (· simp only [Act.put, List.setIfInBounds_toArray, List.set_cons_zero, List.set_cons_succ, kw64, kw32]; rfl))
  (refine sB (v := ?_) (a' := ?_) rfl rfl (by rfl) ?_ ?_ ?_; rotate_left 2; (· intro w1 hg; have e1 := pw_cell_below (HO.up hg).below d1; have e4 := pw_cell_below (HO.up hg).below d4; have e7 := pw_cell_below (HO.up hg).below d7; have e10 := pw_cell_below (HO.up hg).below d10; go_simp; with_reducible rfl); (· simp only [Act.put, List.setIfInBounds_toArray, List.set_cons_zero, List.set_cons_succ, kw64, kw32]; rfl))
  (refine sB (v := ?_) (a' := ?_) rfl rfl (by rfl) ?_ ?_ ?_; rotate_left 2; (· intro w1 hg; have e1 := pw_cell_below (HO.up hg).below d1; have e4 := pw_cell_below (HO.up hg).below d4; have e7 := pw_cell_below (HO.up hg).below d7; have e10 := pw_cell_below (HO.up hg).below d10; go_simp; with_reducible rfl); (· simp only [Act.put, List.setIfInBounds_toArray, List.set_cons_zero, List.set_cons_succ, kw64, kw32]; rfl))
  (refine sB (v := ?_) (a' := ?_) rfl rfl (by rfl) ?_ ?_ ?_; rotate_left 2; (· intro w1 hg; have e1 := pw_cell_below (HO.up hg).below d1; have e4 := pw_cell_below (HO.up hg).below d4; have e7 := pw_cell_below (HO.up hg).below d7; have e10 := pw_cell_below (HO.up hg).below d10; go_simp; with_reducible rfl); (· simp only [Act.put, List.setIfInBounds_toArray, List.set_cons_zero, List.set_cons_succ, kw64, kw32]; rfl))
  (refine sP (v := ?_) (a' := ?_) rfl rfl (by rfl) ?_ ?_ ?_; rotate_left 2; (· intro w'; go_simp; with_reducible rfl); (· simp only [Act.put, List.setIfInBounds_toArray, List.set_cons_zero, List.set_cons_succ, kw64, kw32]; rfl))
  refine bone (i := 18) (N := (some 3)) #[true, true, true, true, true, true, true, true, true, true, true, true, true, true, true, true, true, true, true, false] rfl rfl (by kernel_rfl) HBS (fun w1 hg K hK => ?_)
  rw [if_pos (by rfl)]
  replace HO := HO.up hg
  have hz := HO.lt 0 rfl
  go_simp
  refine hK _ _ (not_ds (by decide) (below_alloc (Below.refl _ _) _)) (fun HBS => ?_)
  replace HO := HO.alloc (.cells #[.int .i64 0, .int .u64 0, .int .u64 0, .int .u64 0, .string ⟨#[]⟩, .string ⟨#[]⟩, .int .u64 0, .int .u64 0, .string ⟨#[]⟩, .int .u64 0, .int .u64 0, .string ⟨#[]⟩, .slice none 0 0] 25)
  have hga := Below.size hg
  clear hg K hK hz
  generalize w1.alloc (.cells #[.int .i64 0, .int .u64 0, .int .u64 0, .int .u64 0, .string ⟨#[]⟩, .string ⟨#[]⟩, .int .u64 0, .int .u64 0, .string ⟨#[]⟩, .int .u64 0, .int .u64 0, .string ⟨#[]⟩, .slice none 0 0] 25) = wa at *
  generalize w1.heap.size = ga at *
  refine bone (i := 19) (N := none) #[true, true, true, true, true, true, true, true, true, true, true, true, true, true, true, true, true, true, true, true] rfl rfl (by kernel_rfl) HBS (fun w1 hg K hK => ?_)
  rw [if_pos (by rfl)]
  replace HO := HO.up hg
  refine wp_store_row 25 (.tmp 3) (.tmp 23) rfl ga #[.int .i64 0, .int .u64 (a : Int), .int .u64 (b : Int), .int .u64 (c : Int), .string ⟨#[]⟩, .string ⟨#[]⟩, .int .u64 0, .int .u64 0, .string ⟨#[]⟩, .int .u64 0, .int .u64 0, .string ⟨#[]⟩, (.slice none 0 0)] (by rfl) (by rfl) _ _ (HO.blk 0 rfl) (by kernel_rfl) rfl (frC_one _ _ _ _ _ _ _ _ _ _ _ _ _ _ _) ?_
  refine hK _ _ (in_ds (by decide) (bel_setRow (by omega) _)) (fun HBS => ?_)
  replace HO := HO.setRow 0 rfl #[.int .i64 0, .int .u64 (a : Int), .int .u64 (b : Int), .int .u64 (c : Int), .string ⟨#[]⟩, .string ⟨#[]⟩, .int .u64 0, .int .u64 0, .string ⟨#[]⟩, .int .u64 0, .int .u64 0, .string ⟨#[]⟩, (.slice none 0 0)] rfl
  clear hg K hK
  revert HO HBS
  generalize World.setRow w1 _ _ = wb
  intro HBS HO
  refine bdone (by kernel_rfl) (fun w1 hg => ?_)
  replace HO := HO.up hg
  clear hg
  have c0 := HO.cell 0 rfl 0
  go_wp2_with fail
  clear c0
  refine bstart (fun _ => w.heap.size) (n := 24) (ds := [17, 19, 21, 23]) #[false, false, false, false, false, false, false, false, false, false, false, false, false, false, false, false, false, false, false, false, false, false, false, false] (by kernel_rfl) rfl rfl HO.below.size (fun HBS => ?_)
  refine bseq (m := 7) (.inl rfl) [(0, true, some 29), (1, true, some 30), (2, true, some 31), (4, true, some 33), (5, true, some 34), (6, true, some 35), (8, true, some 37), (9, true, some 38), (10, true, some 39), (12, true, some 41), (13, true, some 42), (14, true, some 43), (3, true, some 32), (16, true, some 45), (7, true, some 36), (11, true, some 40), (15, true, some 44)] #[true, true, true, true, true, true, true, true, true, true, true, true, true, true, true, true, true, false, false, false, false, false, false, false] HBS (by kernel_rfl) rfl (fun _ _ _ _ _ h => h) ?_
  (refine sP (v := ?_) (a' := ?_) rfl rfl (by rfl) ?_ ?_ ?_; rotate_left 2; (· intro w'; go_simp; with_reducible rfl); (· simp only [Act.put, List.setIfInBounds_toArray, List.set_cons_zero, List.set_cons_succ, kw64, kw32]; rfl))
  (refine sP (v := ?_) (a' := ?_) rfl rfl (by rfl) ?_ ?_ ?_; rotate_left 2; (· intro w'; go_simp; with_reducible rfl); (· simp only [Act.put, List.setIfInBounds_toArray, List.set_cons_zero, List.set_cons_succ, kw64, kw32]; rfl))
  (refine sP (v := ?_) (a' := ?_) rfl rfl (by rfl) ?_ ?_ ?_; rotate_left 2; (· intro w'; go_simp; with_reducible rfl); (· simp only [Act.put, List.setIfInBounds_toArray, List.set_cons_zero, List.set_cons_succ, kw64, kw32]; rfl))
  (refine sP (v := ?_) (a' := ?_) rfl rfl (by rfl) ?_ ?_ ?_; rotate_left 2; (· intro w'; go_simp; with_reducible rfl); (· simp only [Act.put, List.setIfInBounds_toArray, List.set_cons_zero, List.set_cons_succ, kw64, kw32]; rfl))
  (refine sP (v := ?_) (a' := ?_) rfl rfl (by rfl) ?_ ?_ ?_; rotate_left 2; (· intro w'; go_simp; with_reducible rfl); (· simp only [Act.put, List.setIfInBounds_toArray, List.set_cons_zero, List.set_cons_succ, kw64, kw32]; rfl))
  (refine sP (v := ?_) (a' := ?_) rfl rfl (by rfl) ?_ ?_ ?_; rotate_left 2; (· intro w'; go_simp; with_reducible rfl); (· simp only [Act.put, List.setIfInBounds_toArray, List.set_cons_zero, List.set_cons_succ, kw64, kw32]; rfl))
  (refine sP (v := ?_) (a' := ?_) rfl rfl (by rfl) ?_ ?_ ?_; rotate_left 2; (· intro w'; go_simp; with_reducible rfl); (· simp only [Act.put, List.setIfInBounds_toArray, List.set_cons_zero, List.set_cons_succ, kw64, kw32]; rfl))
  (refine sP (v := ?_) (a' := ?_) rfl rfl (by rfl) ?_ ?_ ?_; rotate_left 2; (· intro w'; go_simp; with_reducible rfl); (· simp only [Act.put, List.setIfInBounds_toArray, List.set_cons_zero, List.set_cons_succ, kw64, kw32]; rfl))
  (refine sP (v := ?_) (a' := ?_) rfl rfl (by rfl) ?_ ?_ ?_; rotate_left 2; (· intro w'; go_simp; with_reducible rfl); (· simp only [Act.put, List.setIfInBounds_toArray, List.set_cons_zero, List.set_cons_succ, kw64, kw32]; rfl))
  (refine sP (v := ?_) (a' := ?_) rfl rfl (by rfl) ?_ ?_ ?_; rotate_left 2; (· intro w'; go_simp; with_reducible rfl); (· simp only [Act.put, List.setIfInBounds_toArray, List.set_cons_zero, List.set_cons_succ, kw64, kw32]; rfl))
  (refine sP (v := ?_) (a' := ?_) rfl rfl (by rfl) ?_ ?_ ?_; rotate_left 2; (· intro w'; go_simp; with_reducible rfl); (· simp only [Act.put, List.setIfInBounds_toArray, List.set_cons_zero, List.set_cons_succ, kw64, kw32]; rfl))
  (refine sP (v := ?_) (a' := ?_) rfl rfl (by rfl) ?_ ?_ ?_; rotate_left 2; (· intro w'; go_simp; with_reducible rfl); (· simp only [Act.put, List.setIfInBounds_toArray, List.set_cons_zero, List.set_cons_succ, kw64, kw32]; rfl))
  (refine sB (v := ?_) (a' := ?_) rfl rfl (by rfl) ?_ ?_ ?_; rotate_left 2; (· intro w1 hg; have e14 := pw_cell_below (HO.below.trans hg) d14; have e17 := pw_cell_below (HO.below.trans hg) d17; have e19 := pw_cell_below (HO.below.trans hg) d19; have e22 := pw_cell_below (HO.below.trans hg) d22; go_simp; with_reducible rfl); (· simp only [Act.put, List.setIfInBounds_toArray, List.set_cons_zero, List.set_cons_succ, kw64, kw32]; rfl))
  (refine sP (v := ?_) (a' := ?_) rfl rfl (by rfl) ?_ ?_ ?_; rotate_left 2; (· intro w'; go_simp; with_reducible rfl); (· simp only [Act.put, List.setIfInBounds_toArray, List.set_cons_zero, List.set_cons_succ, kw64, kw32]; rfl))
  (refine sB (v := ?_) (a' := ?_) rfl rfl (by rfl) ?_ ?_ ?_; rotate_left 2; (· intro w1 hg; have e14 := pw_cell_below (HO.below.trans hg) d14; have e17 := pw_cell_below (HO.below.trans hg) d17; have e19 := pw_cell_below (HO.below.trans hg) d19; have e22 := pw_cell_below (HO.below.trans hg) d22; go_simp; with_reducible rfl); (· simp only [Act.put, List.setIfInBounds_toArray, List.set_cons_zero, List.set_cons_succ, kw64, kw32]; rfl))
  (refine sB (v := ?_) (a' := ?_) rfl rfl (by rfl) ?_ ?_ ?_; rotate_left 2; (· intro w1 hg; have e14 := pw_cell_below (HO.below.trans hg) d14; have e17 := pw_cell_below (HO.below.trans hg) d17; have e19 := pw_cell_below (HO.below.trans hg) d19; have e22 := pw_cell_below (HO.below.trans hg) d22; go_simp; with_reducible rfl); (· simp only [Act.put, List.setIfInBounds_toArray, List.set_cons_zero, List.set_cons_succ, kw64, kw32]; rfl))
  (refine sB (v := ?_) (a' := ?_) rfl rfl (by rfl) ?_ ?_ ?_; rotate_left 2; (· intro w1 hg; have e14 := pw_cell_below (HO.below.trans hg) d14; have e17 := pw_cell_below (HO.below.trans hg) d17; have e19 := pw_cell_below (HO.below.trans hg) d19; have e22 := pw_cell_below (HO.below.trans hg) d22; go_simp; with_reducible rfl); (· simp only [Act.put, List.setIfInBounds_toArray, List.set_cons_zero, List.set_cons_succ, kw64, kw32]; rfl))
  refine bone (i := 17) (N := none) #[true, true, true, true, true, true, true, true, true, true, true, true, true, true, true, true, true, true, false, false, false, false, false, false] rfl rfl (by kernel_rfl) HBS (fun w1 hg K hK => ?_)
  rw [if_pos (by rfl)]
  replace HO := HO.up hg
  have c0 := HO.cell 0 rfl 4
  have f0 := HO.frozen 0 rfl 4
  go_simp
  refine hK _ _ (in_ds (by decide) (bel_set (by have := HO.ge 0 rfl; exact this))) (fun HBS => ?_)
  replace HO := HO.set' 0 rfl 4 (.string i) (L' := [(ga, .cells #[.int .i64 0, .int .u64 (a : Int), .int .u64 (b : Int), .int .u64 (c : Int), .string i, .string ⟨#[]⟩, .int .u64 0, .int .u64 0, .string ⟨#[]⟩, .int .u64 0, .int .u64 0, .string ⟨#[]⟩, (.slice none 0 0)] 25 (0, 0)), (w.heap.size, .cells #[.int .i64 0, .int .u64 0, .int .u64 0, .int .u64 0, .string ⟨#[]⟩, .string ⟨#[]⟩, .int .u64 0, .int .u64 0, .string ⟨#[]⟩, .int .u64 0, .int .u64 0, .string ⟨#[]⟩, .slice none 0 0] 25 (0, 0))]) rfl
  clear c0 f0 hg K hK
  revert HO HBS
  generalize World.setCell w1 _ _ = wb
  intro HBS HO
  refine bseq (m := 5) (.inl rfl) [(18, true, some 46)] #[true, true, true, true, true, true, true, true, true, true, true, true, true, true, true, true, true, true, true, false, false, false, false, false] HBS (by kernel_rfl) rfl (fun _ _ _ _ _ h => h) ?_
  (refine sP (v := ?_) (a' := ?_) rfl rfl (by rfl) ?_ ?_ ?_; rotate_left 2; (· intro w'; go_simp; with_reducible rfl); (· simp only [Act.put, List.setIfInBounds_toArray, List.set_cons_zero, List.set_cons_succ, kw64, kw32]; rfl))
  refine bone (i := 19) (N := none) #[true, true, true, true, true, true, true, true, true, true, true, true, true, true, true, true, true, true, true, true, false, false, false, false] rfl rfl (by kernel_rfl) HBS (fun w1 hg K hK => ?_)
  rw [if_pos (by rfl)]
  replace HO := HO.up hg
  have c0 := HO.cell 0 rfl 5
  have f0 := HO.frozen 0 rfl 5
  go_simp
  refine hK _ _ (in_ds (by decide) (bel_set (by have := HO.ge 0 rfl; exact this))) (fun HBS => ?_)
  replace HO := HO.set' 0 rfl 5 (.string ba) (L' := [(ga, .cells #[.int .i64 0, .int .u64 (a : Int), .int .u64 (b : Int), .int .u64 (c : Int), .string i, .string ba, .int .u64 0, .int .u64 0, .string ⟨#[]⟩, .int .u64 0, .int .u64 0, .string ⟨#[]⟩, (.slice none 0 0)] 25 (0, 0)), (w.heap.size, .cells #[.int .i64 0, .int .u64 0, .int .u64 0, .int .u64 0, .string ⟨#[]⟩, .string ⟨#[]⟩, .int .u64 0, .int .u64 0, .string ⟨#[]⟩, .int .u64 0, .int .u64 0, .string ⟨#[]⟩, .slice none 0 0] 25 (0, 0))]) rfl
  clear c0 f0 hg K hK
  revert HO HBS
  generalize World.setCell w1 _ _ = wb
  intro HBS HO
  refine bseq (m := 3) (.inl rfl) [(20, true, some 47)] #[true, true, true, true, true, true, true, true, true, true, true, true, true, true, true, true, true, true, true, true, true, false, false, false] HBS (by kernel_rfl) rfl (fun _ _ _ _ _ h => h) ?_
  (refine sP (v := ?_) (a' := ?_) rfl rfl (by rfl) ?_ ?_ ?_; rotate_left 2; (· intro w'; go_simp; with_reducible rfl); (· simp only [Act.put, List.setIfInBounds_toArray, List.set_cons_zero, List.set_cons_succ, kw64, kw32]; rfl))
  refine bone (i := 21) (N := none) #[true, true, true, true, true, true, true, true, true, true, true, true, true, true, true, true, true, true, true, true, true, true, false, false] rfl rfl (by kernel_rfl) HBS (fun w1 hg K hK => ?_)
  rw [if_pos (by rfl)]
  replace HO := HO.up hg
  have c0 := HO.cell 0 rfl 6
  have f0 := HO.frozen 0 rfl 6
  go_simp
  refine hK _ _ (in_ds (by decide) (bel_set (by have := HO.ge 0 rfl; exact this))) (fun HBS => ?_)
  replace HO := HO.set' 0 rfl 6 (.int .u64 (sg : Int)) (L' := [(ga, .cells #[.int .i64 0, .int .u64 (a : Int), .int .u64 (b : Int), .int .u64 (c : Int), .string i, .string ba, .int .u64 (sg : Int), .int .u64 0, .string ⟨#[]⟩, .int .u64 0, .int .u64 0, .string ⟨#[]⟩, (.slice none 0 0)] 25 (0, 0)), (w.heap.size, .cells #[.int .i64 0, .int .u64 0, .int .u64 0, .int .u64 0, .string ⟨#[]⟩, .string ⟨#[]⟩, .int .u64 0, .int .u64 0, .string ⟨#[]⟩, .int .u64 0, .int .u64 0, .string ⟨#[]⟩, .slice none 0 0] 25 (0, 0))]) rfl
  clear c0 f0 hg K hK
  revert HO HBS
  generalize World.setCell w1 _ _ = wb
  intro HBS HO
  refine bseq (m := 1) (.inl rfl) [(22, true, some 48)] #[true, true, true, true, true, true, true, true, true, true, true, true, true, true, true, true, true, true, true, true, true, true, true, false] HBS (by kernel_rfl) rfl (fun _ _ _ _ _ h => h) ?_
  (refine sP (v := ?_) (a' := ?_) rfl rfl (by rfl) ?_ ?_ ?_; rotate_left 2; (· intro w'; go_simp; with_reducible rfl); (· simp only [Act.put, List.setIfInBounds_toArray, List.set_cons_zero, List.set_cons_succ, kw64, kw32]; rfl))
  refine bone (i := 23) (N := none) #[true, true, true, true, true, true, true, true, true, true, true, true, true, true, true, true, true, true, true, true, true, true, true, true] rfl rfl (by kernel_rfl) HBS (fun w1 hg K hK => ?_)
  rw [if_pos (by rfl)]
  replace HO := HO.up hg
  have c0 := HO.cell 0 rfl 7
  have f0 := HO.frozen 0 rfl 7
  go_simp
  refine hK _ _ (in_ds (by decide) (bel_set (by have := HO.ge 0 rfl; exact this))) (fun HBS => ?_)
  replace HO := HO.set' 0 rfl 7 (.int .u64 (on : Int)) (L' := [(ga, .cells #[.int .i64 0, .int .u64 (a : Int), .int .u64 (b : Int), .int .u64 (c : Int), .string i, .string ba, .int .u64 (sg : Int), .int .u64 (on : Int), .string ⟨#[]⟩, .int .u64 0, .int .u64 0, .string ⟨#[]⟩, (.slice none 0 0)] 25 (0, 0)), (w.heap.size, .cells #[.int .i64 0, .int .u64 0, .int .u64 0, .int .u64 0, .string ⟨#[]⟩, .string ⟨#[]⟩, .int .u64 0, .int .u64 0, .string ⟨#[]⟩, .int .u64 0, .int .u64 0, .string ⟨#[]⟩, .slice none 0 0] 25 (0, 0))]) rfl
  clear c0 f0 hg K hK
  revert HO HBS
  generalize World.setCell w1 _ _ = wb
  intro HBS HO
  refine bdone (by kernel_rfl) (fun w1 hg => ?_)
  replace HO := HO.up hg
  clear hg
  have c0 := HO.cell 0 rfl 0
  go_wp2_with fail
  clear c0
  refine bstart (fun _ => w.heap.size) (n := 24) (ds := [17, 19, 21, 23]) #[false, false, false, false, false, false, false, false, false, false, false, false, false, false, false, false, false, false, false, false, false, false, false, false] (by kernel_rfl) rfl rfl HO.below.size (fun HBS => ?_)
  refine bseq (m := 7) (.inl rfl) [(0, true, some 54), (1, true, some 55), (2, true, some 56), (4, true, some 58), (5, true, some 59), (6, true, some 60), (8, true, some 62), (9, true, some 63), (10, true, some 64), (12, true, some 66), (13, true, some 67), (14, true, some 68), (3, true, some 57), (16, true, some 70), (7, true, some 61), (11, true, some 65), (15, true, some 69)] #[true, true, true, true, true, true, true, true, true, true, true, true, true, true, true, true, true, false, false, false, false, false, false, false] HBS (by kernel_rfl) rfl (fun _ _ _ _ _ h => h) ?_
  (refine sP (v := ?_) (a' := ?_) rfl rfl (by rfl) ?_ ?_ ?_; rotate_left 2; (· intro w'; go_simp; with_reducible rfl); (· simp only [Act.put, List.setIfInBounds_toArray, List.set_cons_zero, List.set_cons_succ, kw64, kw32]; rfl))
  (refine sP (v := ?_) (a' := ?_) rfl rfl (by rfl) ?_ ?_ ?_; rotate_left 2; (· intro w'; go_simp; with_reducible rfl); (· simp only [Act.put, List.setIfInBounds_toArray, List.set_cons_zero, List.set_cons_succ, kw64, kw32]; rfl))
  (refine sP (v := ?_) (a' := ?_) rfl rfl (by rfl) ?_ ?_ ?_; rotate_left 2; (· intro w'; go_simp; with_reducible rfl); (· simp only [Act.put, List.setIfInBounds_toArray, List.set_cons_zero, List.set_cons_succ, kw64, kw32]; rfl))
  (refine sP (v := ?_) (a' := ?_) rfl rfl (by rfl) ?_ ?_ ?_; rotate_left 2; (· intro w'; go_simp; with_reducible rfl); (· simp only [Act.put, List.setIfInBounds_toArray, List.set_cons_zero, List.set_cons_succ, kw64, kw32]; rfl))
  (refine sP (v := ?_) (a' := ?_) rfl rfl (by rfl) ?_ ?_ ?_; rotate_left 2; (· intro w'; go_simp; with_reducible rfl); (· simp only [Act.put, List.setIfInBounds_toArray, List.set_cons_zero, List.set_cons_succ, kw64, kw32]; rfl))
  (refine sP (v := ?_) (a' := ?_) rfl rfl (by rfl) ?_ ?_ ?_; rotate_left 2; (· intro w'; go_simp; with_reducible rfl); (· simp only [Act.put, List.setIfInBounds_toArray, List.set_cons_zero, List.set_cons_succ, kw64, kw32]; rfl))
  (refine sP (v := ?_) (a' := ?_) rfl rfl (by rfl) ?_ ?_ ?_; rotate_left 2; (· intro w'; go_simp; with_reducible rfl); (· simp only [Act.put, List.setIfInBounds_toArray, List.set_cons_zero, List.set_cons_succ, kw64, kw32]; rfl))
  (refine sP (v := ?_) (a' := ?_) rfl rfl (by rfl) ?_ ?_ ?_; rotate_left 2; (· intro w'; go_simp; with_reducible rfl); (· simp only [Act.put, List.setIfInBounds_toArray, List.set_cons_zero, List.set_cons_succ, kw64, kw32]; rfl))
  (refine sP (v := ?_) (a' := ?_) rfl rfl (by rfl) ?_ ?_ ?_; rotate_left 2; (· intro w'; go_simp; with_reducible rfl); (· simp only [Act.put, List.setIfInBounds_toArray, List.set_cons_zero, List.set_cons_succ, kw64, kw32]; rfl))
  (refine sP (v := ?_) (a' := ?_) rfl rfl (by rfl) ?_ ?_ ?_; rotate_left 2; (· intro w'; go_simp; with_reducible rfl); (· simp only [Act.put, List.setIfInBounds_toArray, List.set_cons_zero, List.set_cons_succ, kw64, kw32]; rfl))
  (refine sP (v := ?_) (a' := ?_) rfl rfl (by rfl) ?_ ?_ ?_; rotate_left 2; (· intro w'; go_simp; with_reducible rfl); (· simp only [Act.put, List.setIfInBounds_toArray, List.set_cons_zero, List.set_cons_succ, kw64, kw32]; rfl))
  (refine sP (v := ?_) (a' := ?_) rfl rfl (by rfl) ?_ ?_ ?_; rotate_left 2; (· intro w'; go_simp; with_reducible rfl); (· simp only [Act.put, List.setIfInBounds_toArray, List.set_cons_zero, List.set_cons_succ, kw64, kw32]; rfl))
  (refine sB (v := ?_) (a' := ?_) rfl rfl (by rfl) ?_ ?_ ?_; rotate_left 2; (· intro w1 hg; have e26 := pw_cell_below (HO.below.trans hg) d26; have e28 := pw_cell_below (HO.below.trans hg) d28; have e31 := pw_cell_below (HO.below.trans hg) d31; have e35 := pw_cell_below (HO.below.trans hg) d35; go_simp; with_reducible rfl); (· simp only [Act.put, List.setIfInBounds_toArray, List.set_cons_zero, List.set_cons_succ, kw64, kw32]; rfl))
  (refine sP (v := ?_) (a' := ?_) rfl rfl (by rfl) ?_ ?_ ?_; rotate_left 2; (· intro w'; go_simp; with_reducible rfl); (· simp only [Act.put, List.setIfInBounds_toArray, List.set_cons_zero, List.set_cons_succ, kw64, kw32]; rfl))
  (refine sB (v := ?_) (a' := ?_) rfl rfl (by rfl) ?_ ?_ ?_; rotate_left 2; (· intro w1 hg; have e26 := pw_cell_below (HO.below.trans hg) d26; have e28 := pw_cell_below (HO.below.trans hg) d28; have e31 := pw_cell_below (HO.below.trans hg) d31; have e35 := pw_cell_below (HO.below.trans hg) d35; go_simp; with_reducible rfl); (· simp only [Act.put, List.setIfInBounds_toArray, List.set_cons_zero, List.set_cons_succ, kw64, kw32]; rfl))
  (refine sB (v := ?_) (a' := ?_) rfl rfl (by rfl) ?_ ?_ ?_; rotate_left 2; (· intro w1 hg; have e26 := pw_cell_below (HO.below.trans hg) d26; have e28 := pw_cell_below (HO.below.trans hg) d28; have e31 := pw_cell_below (HO.below.trans hg) d31; have e35 := pw_cell_below (HO.below.trans hg) d35; go_simp; with_reducible rfl); (· simp only [Act.put, List.setIfInBounds_toArray, List.set_cons_zero, List.set_cons_succ, kw64, kw32]; rfl))
  (refine sB (v := ?_) (a' := ?_) rfl rfl (by rfl) ?_ ?_ ?_; rotate_left 2; (· intro w1 hg; have e26 := pw_cell_below (HO.below.trans hg) d26; have e28 := pw_cell_below (HO.below.trans hg) d28; have e31 := pw_cell_below (HO.below.trans hg) d31; have e35 := pw_cell_below (HO.below.trans hg) d35; go_simp; with_reducible rfl); (· simp only [Act.put, List.setIfInBounds_toArray, List.set_cons_zero, List.set_cons_succ, kw64, kw32]; rfl))
  refine bone (i := 17) (N := none) #[true, true, true, true, true, true, true, true, true, true, true, true, true, true, true, true, true, true, false, false, false, false, false, false] rfl rfl (by kernel_rfl) HBS (fun w1 hg K hK => ?_)
  rw [if_pos (by rfl)]
  replace HO := HO.up hg
  have c0 := HO.cell 0 rfl 8
  have f0 := HO.frozen 0 rfl 8
  go_simp
  refine hK _ _ (in_ds (by decide) (bel_set (by have := HO.ge 0 rfl; exact this))) (fun HBS => ?_)
  replace HO := HO.set' 0 rfl 8 (.string ra) (L' := [(ga, .cells #[.int .i64 0, .int .u64 (a : Int), .int .u64 (b : Int), .int .u64 (c : Int), .string i, .string ba, .int .u64 (sg : Int), .int .u64 (on : Int), .string ra, .int .u64 0, .int .u64 0, .string ⟨#[]⟩, (.slice none 0 0)] 25 (0, 0)), (w.heap.size, .cells #[.int .i64 0, .int .u64 0, .int .u64 0, .int .u64 0, .string ⟨#[]⟩, .string ⟨#[]⟩, .int .u64 0, .int .u64 0, .string ⟨#[]⟩, .int .u64 0, .int .u64 0, .string ⟨#[]⟩, .slice none 0 0] 25 (0, 0))]) rfl
  clear c0 f0 hg K hK
  revert HO HBS
  generalize World.setCell w1 _ _ = wb
  intro HBS HO
  refine bseq (m := 5) (.inl rfl) [(18, true, some 71)] #[true, true, true, true, true, true, true, true, true, true, true, true, true, true, true, true, true, true, true, false, false, false, false, false] HBS (by kernel_rfl) rfl (fun _ _ _ _ _ h => h) ?_
  (refine sP (v := ?_) (a' := ?_) rfl rfl (by rfl) ?_ ?_ ?_; rotate_left 2; (· intro w'; go_simp; with_reducible rfl); (· simp only [Act.put, List.setIfInBounds_toArray, List.set_cons_zero, List.set_cons_succ, kw64, kw32]; rfl))
  refine bone (i := 19) (N := none) #[true, true, true, true, true, true, true, true, true, true, true, true, true, true, true, true, true, true, true, true, false, false, false, false] rfl rfl (by kernel_rfl) HBS (fun w1 hg K hK => ?_)
  rw [if_pos (by rfl)]
  replace HO := HO.up hg
  have c0 := HO.cell 0 rfl 9
  have f0 := HO.frozen 0 rfl 9
  go_simp
  refine hK _ _ (in_ds (by decide) (bel_set (by have := HO.ge 0 rfl; exact this))) (fun HBS => ?_)
  replace HO := HO.set' 0 rfl 9 (.int .u64 (pv : Int)) (L' := [(ga, .cells #[.int .i64 0, .int .u64 (a : Int), .int .u64 (b : Int), .int .u64 (c : Int), .string i, .string ba, .int .u64 (sg : Int), .int .u64 (on : Int), .string ra, .int .u64 (pv : Int), .int .u64 0, .string ⟨#[]⟩, (.slice none 0 0)] 25 (0, 0)), (w.heap.size, .cells #[.int .i64 0, .int .u64 0, .int .u64 0, .int .u64 0, .string ⟨#[]⟩, .string ⟨#[]⟩, .int .u64 0, .int .u64 0, .string ⟨#[]⟩, .int .u64 0, .int .u64 0, .string ⟨#[]⟩, .slice none 0 0] 25 (0, 0))]) rfl
  clear c0 f0 hg K hK
  revert HO HBS
  generalize World.setCell w1 _ _ = wb
  intro HBS HO
  refine bseq (m := 3) (.inl rfl) [(20, true, some 72)] #[true, true, true, true, true, true, true, true, true, true, true, true, true, true, true, true, true, true, true, true, true, false, false, false] HBS (by kernel_rfl) rfl (fun _ _ _ _ _ h => h) ?_
  (refine sP (v := ?_) (a' := ?_) rfl rfl (by rfl) ?_ ?_ ?_; rotate_left 2; (· intro w'; go_simp; with_reducible rfl); (· simp only [Act.put, List.setIfInBounds_toArray, List.set_cons_zero, List.set_cons_succ, kw64, kw32]; rfl))
  refine bone (i := 21) (N := none) #[true, true, true, true, true, true, true, true, true, true, true, true, true, true, true, true, true, true, true, true, true, true, false, false] rfl rfl (by kernel_rfl) HBS (fun w1 hg K hK => ?_)
  rw [if_pos (by rfl)]
  replace HO := HO.up hg
  have c0 := HO.cell 0 rfl 10
  have f0 := HO.frozen 0 rfl 10
  go_simp
  refine hK _ _ (in_ds (by decide) (bel_set (by have := HO.ge 0 rfl; exact this))) (fun HBS => ?_)
  replace HO := HO.set' 0 rfl 10 (.int .u64 (nn : Int)) (L' := [(ga, .cells #[.int .i64 0, .int .u64 (a : Int), .int .u64 (b : Int), .int .u64 (c : Int), .string i, .string ba, .int .u64 (sg : Int), .int .u64 (on : Int), .string ra, .int .u64 (pv : Int), .int .u64 (nn : Int), .string ⟨#[]⟩, (.slice none 0 0)] 25 (0, 0)), (w.heap.size, .cells #[.int .i64 0, .int .u64 0, .int .u64 0, .int .u64 0, .string ⟨#[]⟩, .string ⟨#[]⟩, .int .u64 0, .int .u64 0, .string ⟨#[]⟩, .int .u64 0, .int .u64 0, .string ⟨#[]⟩, .slice none 0 0] 25 (0, 0))]) rfl
  clear c0 f0 hg K hK
  revert HO HBS
  generalize World.setCell w1 _ _ = wb
  intro HBS HO
  refine bseq (m := 1) (.inl rfl) [(22, true, some 73)] #[true, true, true, true, true, true, true, true, true, true, true, true, true, true, true, true, true, true, true, true, true, true, true, false] HBS (by kernel_rfl) rfl (fun _ _ _ _ _ h => h) ?_
  (refine sP (v := ?_) (a' := ?_) rfl rfl (by rfl) ?_ ?_ ?_; rotate_left 2; (· intro w'; go_simp; with_reducible rfl); (· simp only [Act.put, List.setIfInBounds_toArray, List.set_cons_zero, List.set_cons_succ, kw64, kw32]; rfl))
  refine bone (i := 23) (N := none) #[true, true, true, true, true, true, true, true, true, true, true, true, true, true, true, true, true, true, true, true, true, true, true, true] rfl rfl (by kernel_rfl) HBS (fun w1 hg K hK => ?_)
  rw [if_pos (by rfl)]
  replace HO := HO.up hg
  have c0 := HO.cell 0 rfl 11
  have f0 := HO.frozen 0 rfl 11
  go_simp
  refine hK _ _ (in_ds (by decide) (bel_set (by have := HO.ge 0 rfl; exact this))) (fun HBS => ?_)
  replace HO := HO.set' 0 rfl 11 (.string bo) (L' := [(ga, .cells #[.int .i64 0, .int .u64 (a : Int), .int .u64 (b : Int), .int .u64 (c : Int), .string i, .string ba, .int .u64 (sg : Int), .int .u64 (on : Int), .string ra, .int .u64 (pv : Int), .int .u64 (nn : Int), .string bo, (.slice none 0 0)] 25 (0, 0)), (w.heap.size, .cells #[.int .i64 0, .int .u64 0, .int .u64 0, .int .u64 0, .string ⟨#[]⟩, .string ⟨#[]⟩, .int .u64 0, .int .u64 0, .string ⟨#[]⟩, .int .u64 0, .int .u64 0, .string ⟨#[]⟩, .slice none 0 0] 25 (0, 0))]) rfl
  clear c0 f0 hg K hK
  revert HO HBS
  generalize World.setCell w1 _ _ = wb
  intro HBS HO
  refine bdone (by kernel_rfl) (fun w1 hg => ?_)
  replace HO := HO.up hg
  clear hg
  go_wp2_with (first | (refine wpList_load_row rfl 25 (.tmp 3) rfl ga (by rfl) _ #[.int .i64 0, .int .u64 (a : Int), .int .u64 (b : Int), .int .u64 (c : Int), .string i, .string ba, .int .u64 (sg : Int), .int .u64 (on : Int), .string ra, .int .u64 (pv : Int), .int .u64 (nn : Int), .string bo, (.slice none 0 0)] _ _ (HO.blk 0 rfl) Try.underlying25 rfl (by kernel_rfl) ?_) | (refine wpList_store_row rfl 25 (.tmp 2) (.tmp 74) rfl w.heap.size #[.int .i64 0, .int .u64 (a : Int), .int .u64 (b : Int), .int .u64 (c : Int), .string i, .string ba, .int .u64 (sg : Int), .int .u64 (on : Int), .string ra, .int .u64 (pv : Int), .int .u64 (nn : Int), .string bo, (.slice none 0 0)] (by rfl) (by rfl) _ _ (HO.blk 1 rfl) (by kernel_rfl) rfl (frC_one _ _ _ _ _ _ _ _ _ _ _ _ _ _ _) ?_))
  replace HO := HO.setRow 1 rfl #[.int .i64 0, .int .u64 (a : Int), .int .u64 (b : Int), .int .u64 (c : Int), .string i, .string ba, .int .u64 (sg : Int), .int .u64 (on : Int), .string ra, .int .u64 (pv : Int), .int .u64 (nn : Int), .string bo, (.slice none 0 0)] (L' := [(ga, .cells #[.int .i64 0, .int .u64 (a : Int), .int .u64 (b : Int), .int .u64 (c : Int), .string i, .string ba, .int .u64 (sg : Int), .int .u64 (on : Int), .string ra, .int .u64 (pv : Int), .int .u64 (nn : Int), .string bo, (.slice none 0 0)] 25 (0, 0)), (w.heap.size, .cells #[.int .i64 0, .int .u64 (a : Int), .int .u64 (b : Int), .int .u64 (c : Int), .string i, .string ba, .int .u64 (sg : Int), .int .u64 (on : Int), .string ra, .int .u64 (pv : Int), .int .u64 (nn : Int), .string bo, (.slice none 0 0)] 25 (0, 0))]) rfl
  exact bodyPost_ret (v := .agg #[.int .i64 0, .int .u64 (a : Int), .int .u64 (b : Int), .int .u64 (c : Int), .string i, .string ba, .int .u64 (sg : Int), .int .u64 (on : Int), .string ra, .int .u64 (pv : Int), .int .u64 (nn : Int), .string bo, (.slice none 0 0)]) (results_cell_row Try.results27 _ _ w.heap.size 25 _ (0, 0) _ (by rfl) (HO.blk 1 rfl) Try.underlying25 rfl (by kernel_rfl)) rfl ⟨rfl, HO.below⟩
end Go.Proofs.Ytfghjahmnjghgaa

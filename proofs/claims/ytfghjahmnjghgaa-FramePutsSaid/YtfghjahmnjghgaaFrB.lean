import Derived.Test.YtfghjahmnjghgaaFrA
import Derived.Test.YtfghjahmnjghgaaKit2
set_option linter.unusedVariables false
set_option linter.unusedSimpArgs false
/- LAYER 8: the frame that parts tell: a later text; keys. -/
namespace Go.Proofs.Ytfghjahmnjghgaa
open Go.RowKit Go.Proofs.YtfghjahmnjghgaaW.PrintWords
theorem Own.grownF {w0 w w1 : World} {L : List (Nat × Obj)} (h : Own w0 L w) {row : Option Nat} (hg : w.grownBy w1 row) (hr : ∀ k, row = some k → w0.heap.size ≤ k ∧ k ∉ L.map (·.1)) : Own w0 L w1 :=
  ⟨h.below.grown hg h.below.size (fun k e => (hr k e).1), fun p hp => by
    have hm := h.mem p hp
    refine ⟨(hg.block p.1 (Array.getElem?_eq_some_iff.1 hm.1).1 (fun e => ?_)).trans hm.1, hm.2⟩
    exact (hr p.1 e.symm).2 (List.mem_map.2 ⟨p, hp, rfl⟩), h.nd⟩
theorem R_OutCF {α : Type} {d : Kd α} {e base : Nat} {ok : Nat → Prop} {w : World} {v : Value} {xs : List α} (h : d.R e w base ok v xs) : Out d w v xs := by
  obtain ⟨_, inner, ho, hr⟩ := h
  have hn : xs.length = xs.length := rfl
  obtain ⟨A, c, he, hc⟩ := own_reads_row ho (hr.imp_ (fun _ _ hp => d.K_of_M hp)) rfl
  refine ⟨A, c, he, ?_, ?_, hc⟩
  all_goals
    rcases ho.2 with ⟨e1, h0⟩ | ⟨g, cap, cur, e1, _, _, h2, h3, _⟩
    · rw [e1] at he; injection he with _ _ he; subst he; omega
    · rw [e1] at he; injection he with _ _ he; subst he; simp only [maxLen] at h3; omega
theorem outRowF {w : World} {base e n : Nat} {v : Value} {xs : List ByteArray} (h : w.ownsRow base e 1 v n (xs.map Value.string)) (hn : xs.length = n) : Out Kd.string w v xs := by
  subst hn
  have h0 : ∀ x : ByteArray, (Value.string x).oneCell' = true := fun _ => rfl
  have hR : (Kd.scalar Value.string h0).R e w base (fun _ => True) v xs := Kd.R_of_own (by simpa [encs] using h) (fun _ _ => trivial)
  exact R_OutCF hR
theorem own_sliceF {W : World} {base e n : Nat} {v : Value} {xs : List Value} (h : W.ownsRow base e 1 v (n + 1) xs)   : ∃ g cap, v = .slice (some ⟨g, 0, none⟩) (n + 1) cap ∧ base ≤ g := by
  rcases h.2 with ⟨_, h0⟩ | ⟨g, cap, cur, rfl, hb, _⟩
  · omega
  · exact ⟨g, cap, rfl, hb⟩
theorem own_shapeF {W : World} {base e n : Nat} {v : Value} {xs : List Value} (h : W.ownsRow base e 1 v n xs) : ∃ A cap, v = .slice A n cap := by
  rcases h.2 with ⟨rfl, h0⟩ | ⟨g, cap, cur, rfl, hb, _⟩
  · exact ⟨none, 0, by rw [h0]⟩
  · exact ⟨_, cap, rfl⟩
theorem info_strF : (Try.prog.info? 9).map (fun i => (i.zero, i.size, i.bytes)) = some (some (.string ⟨#[]⟩), 1, 16) := by kernel_rfl
attribute [local irreducible] Calls
set_option maxHeartbeats 8000000 in
set_option maxRecDepth 100000 in
theorem of_later (A : Option Addr) (cp : Nat) (a b c : Nat) (ra : ByteArray) (pv nn : Nat) (bo : ByteArray) (w : World) (hC : Kd.C kP w A 8 [numP 1, numP a, numP b, numP c, txtP ra, numP pv, numP nn, txtP bo]) (hcp : 8 ≤ cp) :
    Calls Try.prog 27 #[.slice A 8 cp] w fun e w' => e = .returned (.agg (frC 1 a b c ⟨#[]⟩ ⟨#[]⟩ 0 0 ra pv nn bo (.slice none 0 0))) ∧ Below w.heap.size w w' := by
  obtain ⟨bk, o, rfl, hcell, _⟩ := kP_cells hC (by decide)
  have d1 : w.cell? ⟨bk, o + 1, none⟩ = some (.int .u64 1) := (hcell 0 _ rfl).2.1
  have d4 : w.cell? ⟨bk, o + 4, none⟩ = some (.int .u64 (a : Int)) := (hcell 1 _ rfl).2.1
  have d7 : w.cell? ⟨bk, o + 7, none⟩ = some (.int .u64 (b : Int)) := (hcell 2 _ rfl).2.1
  have d10 : w.cell? ⟨bk, o + 10, none⟩ = some (.int .u64 (c : Int)) := (hcell 3 _ rfl).2.1
  have d14 : w.cell? ⟨bk, o + 14, none⟩ = some (.string ra) := (hcell 4 _ rfl).2.2
  have d16 : w.cell? ⟨bk, o + 16, none⟩ = some (.int .u64 (pv : Int)) := (hcell 5 _ rfl).2.1
  have d19 : w.cell? ⟨bk, o + 19, none⟩ = some (.int .u64 (nn : Int)) := (hcell 6 _ rfl).2.1
  have d23 : w.cell? ⟨bk, o + 23, none⟩ = some (.string bo) := (hcell 7 _ rfl).2.2
  clear hC hcell
  have HO := (Own.start w).alloc' (.cells #[.int .i64 0, .int .u64 0, .int .u64 0, .int .u64 0, .string ⟨#[]⟩, .string ⟨#[]⟩, .int .u64 0, .int .u64 0, .string ⟨#[]⟩, .int .u64 0, .int .u64 0, .string ⟨#[]⟩, .slice none 0 0] 25) rfl
  go_enter Try.func27, Try.ntmps27
  go_wp2_with fail
  refine bstart (fun w => w.heap.size) (n := 20) (ds := [19]) #[false, false, false, false, false, false, false, false, false, false, false, false, false, false, false, false, false, false, false, false] (by kernel_rfl) rfl rfl (Nat.le_refl _) (fun HBS => ?_)
  refine bseq (m := 2) (.inl rfl) [(0, true, some 6), (1, true, some 7), (2, true, some 8), (5, true, some 11), (6, true, some 12), (7, true, some 13), (9, true, some 15), (10, true, some 16), (11, true, some 17), (13, true, some 19), (14, true, some 20), (15, true, some 21), (3, true, some 9), (4, true, some 10), (8, true, some 14), (12, true, some 18), (16, true, some 22), (17, true, some 23)] #[true, true, true, true, true, true, true, true, true, true, true, true, true, true, true, true, true, true, false, false] HBS (by kernel_rfl) rfl (fun _ _ _ _ _ h => h) ?_
  (refine sP (v := ?_) (a' := ?_) rfl rfl (by rfl) ?_ ?_ ?_; rotate_left 2; (· intro w'; go_simp; with_reducible rfl); (· simp only [Act.put, List.setIfInBounds_toArray, List.set_cons_zero, List.set_cons_succ, kw64, kw32]; rfl))
  (refine sP (v := ?_) (a' := ?_) rfl rfl (by rfl) ?_ ?_ ?_; rotate_left 2; (· intro w'; go_simp; with_reducible rfl); (· simp only [Act.put, List.setIfInBounds_toArray, List.set_cons_zero, List.set_cons_succ, kw64, kw32]; rfl))
  (refine sP (v := ?_) (a' := ?_) rfl rfl (by rfl) ?_ ?_ ?_; rotate_left 2; (· intro w'; go_simp; with_reducible rfl); (· simp only [Act.put, List.setIfInBounds_toArray, List.set_cons_zero, List.set_cons_succ, kw64, kw32]; rfl))
  (refine sP (v := ?_) (a' := ?_) rfl rfl (by rfl) ?_ ?_ ?_; rotate_left 2; (· intro w'; go_simp; with_reducible rfl); (· simp only [Act.put, List.setIfInBounds_toArray, List.set_cons_zero, List.set_cons_succ, kw64, kw32]; rfl))
  (refine sP (v := ?_) (a' := ?_) rfl rfl (by rfl) ?_ ?_ ?_; rotate_left 2; (· intro w'; go_simp; with_reducible rfl); (· simp only [Act.put, List.setIfInBounds_toArray, List.set_cons_zero, List.set_cons_succ, kw64, kw32]; rfl))
  (refine sP (v := ?_) (a' := ?_) rfl rfl (by rfl) ?_ ?_ ?_; rotate_left 2; (· intro w'; go_simp; with_reducible rfl); (· simp only [Act.put, List.setIfInBounds_toArray, List.set_cons_zero, List.set_cons_succ, kw64, kw32]; rfl))
  (refine sP (v := ?_) (a' := ?_) rfl rfl (by rfl) ?_ ?_ ?_; rotate_left 2; (· intro w'; go_simp; with_reducible rfl); (· simp only [Act.put, List.setIfInBounds_toArray, List.set_cons_zero, List.set_cons_succ, kw64, kw32]; rfl))
  (refine sP (v := ?_) (a' := ?_) rfl rfl (by rfl) ?_ ?_ ?_; rotate_left 2; (· intro w'; go_simp; with_reducible rfl); (· simp only [Act.put, List.setIfInBounds_toArray, List.set_cons_zero, List.set_cons_succ, kw64, kw32]; rfl))
  (refine sP (v := ?_) (a' := ?_) rfl rfl (by rfl) ?_ ?_ ?_; rotate_left 2; (· intro w'; go_simp; with_reducible rfl); (· simp only [Act.put, List.setIfInBounds_toArray, List.set_cons_zero, List.set_cons_succ, kw64, kw32]; rfl))
  (refine sP (v := ?_) (a' := ?_) rfl rfl (by rfl) ?_ ?_ ?_; rotate_left 2; (· intro w'; go_simp; with_reducible rfl); (· simp only [Act.put, List.setIfInBounds_toArray, List.set_cons_zero, List.set_cons_succ, kw64, kw32]; rfl))
  (refine sP (v := ?_) (a' := ?_) rfl rfl (by rfl) ?_ ?_ ?_; rotate_left 2; (· intro w'; go_simp; with_reducible rfl); (· simp only [Act.put, List.setIfInBounds_toArray, List.set_cons_zero, List.set_cons_succ, kw64, kw32]; rfl))
  (refine sP (v := ?_) (a' := ?_) rfl rfl (by rfl) ?_ ?_ ?_; rotate_left 2; (· intro w'; go_simp; with_reducible rfl); (· simp only [Act.put, List.setIfInBounds_toArray, List.set_cons_zero, List.set_cons_succ, kw64, kw32]; rfl))
  (refine sB (v := ?_) (a' := ?_) rfl rfl (by rfl) ?_ ?_ ?_; rotate_left 2; (· intro w1 hg; have e1 := pw_cell_below (HO.up hg).below d1; have e4 := pw_cell_below (HO.up hg).below d4; have e7 := pw_cell_below (HO.up hg).below d7; have e10 := pw_cell_below (HO.up hg).below d10; go_simp; with_reducible rfl); (· simp only [Act.put, List.setIfInBounds_toArray, List.set_cons_zero, List.set_cons_succ, kw64, kw32]; rfl))
  (refine sP (v := .int .i64 1) (a' := ?_) rfl rfl (by rfl) ?_ ?_ ?_; rotate_left 1; (· intro w'; go_simp; try rfl); (· simp only [Act.put, List.setIfInBounds_toArray, List.set_cons_zero, List.set_cons_succ, kw64, kw32]; rfl))
  (refine sB (v := ?_) (a' := ?_) rfl rfl (by rfl) ?_ ?_ ?_; rotate_left 2; (· intro w1 hg; have e1 := pw_cell_below (HO.up hg).below d1; have e4 := pw_cell_below (HO.up hg).below d4; have e7 := pw_cell_below (HO.up hg).below d7; have e10 := pw_cell_below (HO.up hg).below d10; go_simp; with_reducible rfl); (· simp only [Act.put, List.setIfInBounds_toArray, List.set_cons_zero, List.set_cons_succ, kw64, kw32]; rfl))
  (refine sB (v := ?_) (a' := ?_) rfl rfl (by rfl) ?_ ?_ ?_; rotate_left 2; (· intro w1 hg; have e1 := pw_cell_below (HO.up hg).below d1; have e4 := pw_cell_below (HO.up hg).below d4; have e7 := pw_cell_below (HO.up hg).below d7; have e10 := pw_cell_below (HO.up hg).below d10; go_simp; with_reducible rfl); (· simp only [Act.put, List.setIfInBounds_toArray, List.set_cons_zero, List.set_cons_succ, kw64, kw32]; rfl))
  (refine sB (v := ?_) (a' := ?_) rfl rfl (by rfl) ?_ ?_ ?_; rotate_left 2; (· intro w1 hg; have e1 := pw_cell_below (HO.up hg).below d1; have e4 := pw_cell_below (HO.up hg).below d4; have e7 := pw_cell_below (HO.up hg).below d7; have e10 := pw_cell_below (HO.up hg).below d10; go_simp; with_reducible rfl); (· simp only [Act.put, List.setIfInBounds_toArray, List.set_cons_zero, List.set_cons_succ, kw64, kw32]; rfl))
  (refine sP (v := ?_) (a' := ?_) rfl rfl (by rfl) ?_ ?_ ?_; rotate_left 2; (· intro w'; go_simp; with_reducible rfl); (· simp only [Act.put, List.setIfInBounds_toArray, List.set_cons_zero, List.set_cons_succ, kw64, kw32]; rfl))
  refine bone (i := 18) (N := (some 3)) #[true, true, true, true, true, true, true, true, true, true, true, true, true, true, true, true, true, true, true, false] rfl rfl (by kernel_rfl) HBS (fun w1 hg K hK => ?_)
  rw [if_pos (by rfl)]
  replace HO := HO.up hg
  have hz := HO.lt 0 rfl
  go_simp
  refine hK _ _ (not_ds (by decide) (below_alloc (Below.refl _ _) _)) (fun HBS => ?_)
  replace HO := HO.alloc (.cells #[.int .i64 0, .int .u64 0, .int .u64 0, .int .u64 0, .string ⟨#[]⟩, .string ⟨#[]⟩, .int .u64 0, .int .u64 0, .string ⟨#[]⟩, .int .u64 0, .int .u64 0, .string ⟨#[]⟩, .slice none 0 0] 25)
  have hga := Below.size hg
  clear hg K hK hz
  generalize w1.alloc (.cells #[.int .i64 0, .int .u64 0, .int .u64 0, .int .u64 0, .string ⟨#[]⟩, .string ⟨#[]⟩, .int .u64 0, .int .u64 0, .string ⟨#[]⟩, .int .u64 0, .int .u64 0, .string ⟨#[]⟩, .slice none 0 0] 25) = wa at *
  generalize w1.heap.size = ga at *
  refine bone (i := 19) (N := none) #[true, true, true, true, true, true, true, true, true, true, true, true, true, true, true, true, true, true, true, true] rfl rfl (by kernel_rfl) HBS (fun w1 hg K hK => ?_)
  rw [if_pos (by rfl)]
  replace HO := HO.up hg
  refine wp_store_row 25 (.tmp 3) (.tmp 23) rfl ga #[.int .i64 1, .int .u64 (a : Int), .int .u64 (b : Int), .int .u64 (c : Int), .string ⟨#[]⟩, .string ⟨#[]⟩, .int .u64 0, .int .u64 0, .string ⟨#[]⟩, .int .u64 0, .int .u64 0, .string ⟨#[]⟩, (.slice none 0 0)] (by rfl) (by rfl) _ _ (HO.blk 0 rfl) (by kernel_rfl) rfl (frC_one _ _ _ _ _ _ _ _ _ _ _ _ _ _ _) ?_
  refine hK _ _ (in_ds (by decide) (bel_setRow (by omega) _)) (fun HBS => ?_)
  replace HO := HO.setRow 0 rfl #[.int .i64 1, .int .u64 (a : Int), .int .u64 (b : Int), .int .u64 (c : Int), .string ⟨#[]⟩, .string ⟨#[]⟩, .int .u64 0, .int .u64 0, .string ⟨#[]⟩, .int .u64 0, .int .u64 0, .string ⟨#[]⟩, (.slice none 0 0)] (L' := [(ga, .cells #[.int .i64 1, .int .u64 (a : Int), .int .u64 (b : Int), .int .u64 (c : Int), .string ⟨#[]⟩, .string ⟨#[]⟩, .int .u64 0, .int .u64 0, .string ⟨#[]⟩, .int .u64 0, .int .u64 0, .string ⟨#[]⟩, (.slice none 0 0)] 25 (0, 0)), (w.heap.size, .cells #[.int .i64 0, .int .u64 0, .int .u64 0, .int .u64 0, .string ⟨#[]⟩, .string ⟨#[]⟩, .int .u64 0, .int .u64 0, .string ⟨#[]⟩, .int .u64 0, .int .u64 0, .string ⟨#[]⟩, .slice none 0 0] 25 (0, 0))]) rfl
  clear hg K hK
  revert HO HBS
  generalize World.setRow w1 _ _ = wb
  intro HBS HO
  refine bdone (by kernel_rfl) (fun w1 hg => ?_)
  replace HO := HO.up hg
  clear hg
  have c0 := HO.cell 0 rfl 0
  go_wp2_with fail
  clear c0
  refine bstart (fun _ => w.heap.size) (n := 24) (ds := [17, 19, 21, 23]) #[false, false, false, false, false, false, false, false, false, false, false, false, false, false, false, false, false, false, false, false, false, false, false, false] (by kernel_rfl) rfl rfl HO.below.size (fun HBS => ?_)
  refine bseq (m := 7) (.inl rfl) [(0, true, some 54), (1, true, some 55), (2, true, some 56), (4, true, some 58), (5, true, some 59), (6, true, some 60), (8, true, some 62), (9, true, some 63), (10, true, some 64), (12, true, some 66), (13, true, some 67), (14, true, some 68), (3, true, some 57), (16, true, some 70), (7, true, some 61), (11, true, some 65), (15, true, some 69)] #[true, true, true, true, true, true, true, true, true, true, true, true, true, true, true, true, true, false, false, false, false, false, false, false] HBS (by kernel_rfl) rfl (fun _ _ _ _ _ h => h) ?_
  (refine sP (v := ?_) (a' := ?_) rfl rfl (by rfl) ?_ ?_ ?_; rotate_left 2; (· intro w'; go_simp; with_reducible rfl); (· simp only [Act.put, List.setIfInBounds_toArray, List.set_cons_zero, List.set_cons_succ, kw64, kw32]; rfl))
  (refine sP (v := ?_) (a' := ?_) rfl rfl (by rfl) ?_ ?_ ?_; rotate_left 2; (· intro w'; go_simp; with_reducible rfl); (· simp only [Act.put, List.setIfInBounds_toArray, List.set_cons_zero, List.set_cons_succ, kw64, kw32]; rfl))
  (refine sP (v := ?_) (a' := ?_) rfl rfl (by rfl) ?_ ?_ ?_; rotate_left 2; (· intro w'; go_simp; with_reducible rfl); (· simp only [Act.put, List.setIfInBounds_toArray, List.set_cons_zero, List.set_cons_succ, kw64, kw32]; rfl))
  (refine sP (v := ?_) (a' := ?_) rfl rfl (by rfl) ?_ ?_ ?_; rotate_left 2; (· intro w'; go_simp; with_reducible rfl); (· simp only [Act.put, List.setIfInBounds_toArray, List.set_cons_zero, List.set_cons_succ, kw64, kw32]; rfl))
  (refine sP (v := ?_) (a' := ?_) rfl rfl (by rfl) ?_ ?_ ?_; rotate_left 2; (· intro w'; go_simp; with_reducible rfl); (· simp only [Act.put, List.setIfInBounds_toArray, List.set_cons_zero, List.set_cons_succ, kw64, kw32]; rfl))
  (refine sP (v := ?_) (a' := ?_) rfl rfl (by rfl) ?_ ?_ ?_; rotate_left 2; (· intro w'; go_simp; with_reducible rfl); (· simp only [Act.put, List.setIfInBounds_toArray, List.set_cons_zero, List.set_cons_succ, kw64, kw32]; rfl))
  (refine sP (v := ?_) (a' := ?_) rfl rfl (by rfl) ?_ ?_ ?_; rotate_left 2; (· intro w'; go_simp; with_reducible rfl); (· simp only [Act.put, List.setIfInBounds_toArray, List.set_cons_zero, List.set_cons_succ, kw64, kw32]; rfl))
  (refine sP (v := ?_) (a' := ?_) rfl rfl (by rfl) ?_ ?_ ?_; rotate_left 2; (· intro w'; go_simp; with_reducible rfl); (· simp only [Act.put, List.setIfInBounds_toArray, List.set_cons_zero, List.set_cons_succ, kw64, kw32]; rfl))
  (refine sP (v := ?_) (a' := ?_) rfl rfl (by rfl) ?_ ?_ ?_; rotate_left 2; (· intro w'; go_simp; with_reducible rfl); (· simp only [Act.put, List.setIfInBounds_toArray, List.set_cons_zero, List.set_cons_succ, kw64, kw32]; rfl))
  (refine sP (v := ?_) (a' := ?_) rfl rfl (by rfl) ?_ ?_ ?_; rotate_left 2; (· intro w'; go_simp; with_reducible rfl); (· simp only [Act.put, List.setIfInBounds_toArray, List.set_cons_zero, List.set_cons_succ, kw64, kw32]; rfl))
  (refine sP (v := ?_) (a' := ?_) rfl rfl (by rfl) ?_ ?_ ?_; rotate_left 2; (· intro w'; go_simp; with_reducible rfl); (· simp only [Act.put, List.setIfInBounds_toArray, List.set_cons_zero, List.set_cons_succ, kw64, kw32]; rfl))
  (refine sP (v := ?_) (a' := ?_) rfl rfl (by rfl) ?_ ?_ ?_; rotate_left 2; (· intro w'; go_simp; with_reducible rfl); (· simp only [Act.put, List.setIfInBounds_toArray, List.set_cons_zero, List.set_cons_succ, kw64, kw32]; rfl))
  (refine sB (v := ?_) (a' := ?_) rfl rfl (by rfl) ?_ ?_ ?_; rotate_left 2; (· intro w1 hg; have e14 := pw_cell_below (HO.below.trans hg) d14; have e16 := pw_cell_below (HO.below.trans hg) d16; have e19 := pw_cell_below (HO.below.trans hg) d19; have e23 := pw_cell_below (HO.below.trans hg) d23; go_simp; with_reducible rfl); (· simp only [Act.put, List.setIfInBounds_toArray, List.set_cons_zero, List.set_cons_succ, kw64, kw32]; rfl))
  (refine sP (v := ?_) (a' := ?_) rfl rfl (by rfl) ?_ ?_ ?_; rotate_left 2; (· intro w'; go_simp; with_reducible rfl); (· simp only [Act.put, List.setIfInBounds_toArray, List.set_cons_zero, List.set_cons_succ, kw64, kw32]; rfl))
  (refine sB (v := ?_) (a' := ?_) rfl rfl (by rfl) ?_ ?_ ?_; rotate_left 2; (· intro w1 hg; have e14 := pw_cell_below (HO.below.trans hg) d14; have e16 := pw_cell_below (HO.below.trans hg) d16; have e19 := pw_cell_below (HO.below.trans hg) d19; have e23 := pw_cell_below (HO.below.trans hg) d23; go_simp; with_reducible rfl); (· simp only [Act.put, List.setIfInBounds_toArray, List.set_cons_zero, List.set_cons_succ, kw64, kw32]; rfl))
  (refine sB (v := ?_) (a' := ?_) rfl rfl (by rfl) ?_ ?_ ?_; rotate_left 2; (· intro w1 hg; have e14 := pw_cell_below (HO.below.trans hg) d14; have e16 := pw_cell_below (HO.below.trans hg) d16; have e19 := pw_cell_below (HO.below.trans hg) d19; have e23 := pw_cell_below (HO.below.trans hg) d23; go_simp; with_reducible rfl); (· simp only [Act.put, List.setIfInBounds_toArray, List.set_cons_zero, List.set_cons_succ, kw64, kw32]; rfl))
  (refine sB (v := ?_) (a' := ?_) rfl rfl (by rfl) ?_ ?_ ?_; rotate_left 2; (· intro w1 hg; have e14 := pw_cell_below (HO.below.trans hg) d14; have e16 := pw_cell_below (HO.below.trans hg) d16; have e19 := pw_cell_below (HO.below.trans hg) d19; have e23 := pw_cell_below (HO.below.trans hg) d23; go_simp; with_reducible rfl); (· simp only [Act.put, List.setIfInBounds_toArray, List.set_cons_zero, List.set_cons_succ, kw64, kw32]; rfl))
  refine bone (i := 17) (N := none) #[true, true, true, true, true, true, true, true, true, true, true, true, true, true, true, true, true, true, false, false, false, false, false, false] rfl rfl (by kernel_rfl) HBS (fun w1 hg K hK => ?_)
  rw [if_pos (by rfl)]
  replace HO := HO.up hg
  have c0 := HO.cell 0 rfl 8
  have f0 := HO.frozen 0 rfl 8
  go_simp
  refine hK _ _ (in_ds (by decide) (bel_set (by have := HO.ge 0 rfl; exact this))) (fun HBS => ?_)
  replace HO := HO.set' 0 rfl 8 (.string ra) (L' := [(ga, .cells #[.int .i64 1, .int .u64 (a : Int), .int .u64 (b : Int), .int .u64 (c : Int), .string ⟨#[]⟩, .string ⟨#[]⟩, .int .u64 0, .int .u64 0, .string ra, .int .u64 0, .int .u64 0, .string ⟨#[]⟩, (.slice none 0 0)] 25 (0, 0)), (w.heap.size, .cells #[.int .i64 0, .int .u64 0, .int .u64 0, .int .u64 0, .string ⟨#[]⟩, .string ⟨#[]⟩, .int .u64 0, .int .u64 0, .string ⟨#[]⟩, .int .u64 0, .int .u64 0, .string ⟨#[]⟩, .slice none 0 0] 25 (0, 0))]) rfl
  clear c0 f0 hg K hK
  revert HO HBS
  generalize World.setCell w1 _ _ = wb
  intro HBS HO
  refine bseq (m := 5) (.inl rfl) [(18, true, some 71)] #[true, true, true, true, true, true, true, true, true, true, true, true, true, true, true, true, true, true, true, false, false, false, false, false] HBS (by kernel_rfl) rfl (fun _ _ _ _ _ h => h) ?_
  (refine sP (v := ?_) (a' := ?_) rfl rfl (by rfl) ?_ ?_ ?_; rotate_left 2; (· intro w'; go_simp; with_reducible rfl); (· simp only [Act.put, List.setIfInBounds_toArray, List.set_cons_zero, List.set_cons_succ, kw64, kw32]; rfl))
  refine bone (i := 19) (N := none) #[true, true, true, true, true, true, true, true, true, true, true, true, true, true, true, true, true, true, true, true, false, false, false, false] rfl rfl (by kernel_rfl) HBS (fun w1 hg K hK => ?_)
  rw [if_pos (by rfl)]
  replace HO := HO.up hg
  have c0 := HO.cell 0 rfl 9
  have f0 := HO.frozen 0 rfl 9
  go_simp
  refine hK _ _ (in_ds (by decide) (bel_set (by have := HO.ge 0 rfl; exact this))) (fun HBS => ?_)
  replace HO := HO.set' 0 rfl 9 (.int .u64 (pv : Int)) (L' := [(ga, .cells #[.int .i64 1, .int .u64 (a : Int), .int .u64 (b : Int), .int .u64 (c : Int), .string ⟨#[]⟩, .string ⟨#[]⟩, .int .u64 0, .int .u64 0, .string ra, .int .u64 (pv : Int), .int .u64 0, .string ⟨#[]⟩, (.slice none 0 0)] 25 (0, 0)), (w.heap.size, .cells #[.int .i64 0, .int .u64 0, .int .u64 0, .int .u64 0, .string ⟨#[]⟩, .string ⟨#[]⟩, .int .u64 0, .int .u64 0, .string ⟨#[]⟩, .int .u64 0, .int .u64 0, .string ⟨#[]⟩, .slice none 0 0] 25 (0, 0))]) rfl
  clear c0 f0 hg K hK
  revert HO HBS
  generalize World.setCell w1 _ _ = wb
  intro HBS HO
  refine bseq (m := 3) (.inl rfl) [(20, true, some 72)] #[true, true, true, true, true, true, true, true, true, true, true, true, true, true, true, true, true, true, true, true, true, false, false, false] HBS (by kernel_rfl) rfl (fun _ _ _ _ _ h => h) ?_
  (refine sP (v := ?_) (a' := ?_) rfl rfl (by rfl) ?_ ?_ ?_; rotate_left 2; (· intro w'; go_simp; with_reducible rfl); (· simp only [Act.put, List.setIfInBounds_toArray, List.set_cons_zero, List.set_cons_succ, kw64, kw32]; rfl))
  refine bone (i := 21) (N := none) #[true, true, true, true, true, true, true, true, true, true, true, true, true, true, true, true, true, true, true, true, true, true, false, false] rfl rfl (by kernel_rfl) HBS (fun w1 hg K hK => ?_)
  rw [if_pos (by rfl)]
  replace HO := HO.up hg
  have c0 := HO.cell 0 rfl 10
  have f0 := HO.frozen 0 rfl 10
  go_simp
  refine hK _ _ (in_ds (by decide) (bel_set (by have := HO.ge 0 rfl; exact this))) (fun HBS => ?_)
  replace HO := HO.set' 0 rfl 10 (.int .u64 (nn : Int)) (L' := [(ga, .cells #[.int .i64 1, .int .u64 (a : Int), .int .u64 (b : Int), .int .u64 (c : Int), .string ⟨#[]⟩, .string ⟨#[]⟩, .int .u64 0, .int .u64 0, .string ra, .int .u64 (pv : Int), .int .u64 (nn : Int), .string ⟨#[]⟩, (.slice none 0 0)] 25 (0, 0)), (w.heap.size, .cells #[.int .i64 0, .int .u64 0, .int .u64 0, .int .u64 0, .string ⟨#[]⟩, .string ⟨#[]⟩, .int .u64 0, .int .u64 0, .string ⟨#[]⟩, .int .u64 0, .int .u64 0, .string ⟨#[]⟩, .slice none 0 0] 25 (0, 0))]) rfl
  clear c0 f0 hg K hK
  revert HO HBS
  generalize World.setCell w1 _ _ = wb
  intro HBS HO
  refine bseq (m := 1) (.inl rfl) [(22, true, some 73)] #[true, true, true, true, true, true, true, true, true, true, true, true, true, true, true, true, true, true, true, true, true, true, true, false] HBS (by kernel_rfl) rfl (fun _ _ _ _ _ h => h) ?_
  (refine sP (v := ?_) (a' := ?_) rfl rfl (by rfl) ?_ ?_ ?_; rotate_left 2; (· intro w'; go_simp; with_reducible rfl); (· simp only [Act.put, List.setIfInBounds_toArray, List.set_cons_zero, List.set_cons_succ, kw64, kw32]; rfl))
  refine bone (i := 23) (N := none) #[true, true, true, true, true, true, true, true, true, true, true, true, true, true, true, true, true, true, true, true, true, true, true, true] rfl rfl (by kernel_rfl) HBS (fun w1 hg K hK => ?_)
  rw [if_pos (by rfl)]
  replace HO := HO.up hg
  have c0 := HO.cell 0 rfl 11
  have f0 := HO.frozen 0 rfl 11
  go_simp
  refine hK _ _ (in_ds (by decide) (bel_set (by have := HO.ge 0 rfl; exact this))) (fun HBS => ?_)
  replace HO := HO.set' 0 rfl 11 (.string bo) (L' := [(ga, .cells #[.int .i64 1, .int .u64 (a : Int), .int .u64 (b : Int), .int .u64 (c : Int), .string ⟨#[]⟩, .string ⟨#[]⟩, .int .u64 0, .int .u64 0, .string ra, .int .u64 (pv : Int), .int .u64 (nn : Int), .string bo, (.slice none 0 0)] 25 (0, 0)), (w.heap.size, .cells #[.int .i64 0, .int .u64 0, .int .u64 0, .int .u64 0, .string ⟨#[]⟩, .string ⟨#[]⟩, .int .u64 0, .int .u64 0, .string ⟨#[]⟩, .int .u64 0, .int .u64 0, .string ⟨#[]⟩, .slice none 0 0] 25 (0, 0))]) rfl
  clear c0 f0 hg K hK
  revert HO HBS
  generalize World.setCell w1 _ _ = wb
  intro HBS HO
  refine bdone (by kernel_rfl) (fun w1 hg => ?_)
  replace HO := HO.up hg
  clear hg
  go_wp2_with (first | (refine wpList_load_row rfl 25 (.tmp 3) rfl ga (by rfl) _ #[.int .i64 1, .int .u64 (a : Int), .int .u64 (b : Int), .int .u64 (c : Int), .string ⟨#[]⟩, .string ⟨#[]⟩, .int .u64 0, .int .u64 0, .string ra, .int .u64 (pv : Int), .int .u64 (nn : Int), .string bo, (.slice none 0 0)] _ _ (HO.blk 0 rfl) Try.underlying25 rfl (by kernel_rfl) ?_) | (refine wpList_store_row rfl 25 (.tmp 2) (.tmp 74) rfl w.heap.size #[.int .i64 1, .int .u64 (a : Int), .int .u64 (b : Int), .int .u64 (c : Int), .string ⟨#[]⟩, .string ⟨#[]⟩, .int .u64 0, .int .u64 0, .string ra, .int .u64 (pv : Int), .int .u64 (nn : Int), .string bo, (.slice none 0 0)] (by rfl) (by rfl) _ _ (HO.blk 1 rfl) (by kernel_rfl) rfl (frC_one _ _ _ _ _ _ _ _ _ _ _ _ _ _ _) ?_))
  replace HO := HO.setRow 1 rfl #[.int .i64 1, .int .u64 (a : Int), .int .u64 (b : Int), .int .u64 (c : Int), .string ⟨#[]⟩, .string ⟨#[]⟩, .int .u64 0, .int .u64 0, .string ra, .int .u64 (pv : Int), .int .u64 (nn : Int), .string bo, (.slice none 0 0)] (L' := [(ga, .cells #[.int .i64 1, .int .u64 (a : Int), .int .u64 (b : Int), .int .u64 (c : Int), .string ⟨#[]⟩, .string ⟨#[]⟩, .int .u64 0, .int .u64 0, .string ra, .int .u64 (pv : Int), .int .u64 (nn : Int), .string bo, (.slice none 0 0)] 25 (0, 0)), (w.heap.size, .cells #[.int .i64 1, .int .u64 (a : Int), .int .u64 (b : Int), .int .u64 (c : Int), .string ⟨#[]⟩, .string ⟨#[]⟩, .int .u64 0, .int .u64 0, .string ra, .int .u64 (pv : Int), .int .u64 (nn : Int), .string bo, (.slice none 0 0)] 25 (0, 0))]) rfl
  exact bodyPost_ret (v := .agg #[.int .i64 1, .int .u64 (a : Int), .int .u64 (b : Int), .int .u64 (c : Int), .string ⟨#[]⟩, .string ⟨#[]⟩, .int .u64 0, .int .u64 0, .string ra, .int .u64 (pv : Int), .int .u64 (nn : Int), .string bo, (.slice none 0 0)]) (results_cell_row Try.results27 _ _ w.heap.size 25 _ (0, 0) _ (by rfl) (HO.blk 1 rfl) Try.underlying25 rfl (by kernel_rfl)) rfl ⟨rfl, HO.below⟩
/-- a frame of keys, as parts -/
def keyP (a b c : Nat) (ks : List ByteArray) : List PartD := [numP 2, numP a, numP b, numP c, numP ks.length] ++ ks.map txtP
set_option maxHeartbeats 8000000 in
set_option maxRecDepth 100000 in
theorem of_keys (A : Option Addr) (cp : Nat) (a b c : Nat) (ks : List ByteArray) (w : World) (hC : Kd.C kP w A (ks.length + 5) (keyP a b c ks)) (hcp : ks.length + 5 ≤ cp) (hks : ks.length ≤ 1000000) :
    Calls Try.prog 27 #[.slice A (ks.length + 5) cp] w fun e w' => (∃ v, e = .returned (.agg (frC 2 a b c ⟨#[]⟩ ⟨#[]⟩ 0 0 ⟨#[]⟩ 0 0 ⟨#[]⟩ v)) ∧ Out Kd.string w' v ks) ∧ Below w.heap.size w w' := by
  obtain ⟨bk, o, rfl, hcell, hbk⟩ := kP_cells hC (by omega)
  have d1 : w.cell? ⟨bk, o + 1, none⟩ = some (.int .u64 2) := (hcell 0 _ rfl).2.1
  have d4 : w.cell? ⟨bk, o + 4, none⟩ = some (.int .u64 (a : Int)) := (hcell 1 _ rfl).2.1
  have d7 : w.cell? ⟨bk, o + 7, none⟩ = some (.int .u64 (b : Int)) := (hcell 2 _ rfl).2.1
  have d10 : w.cell? ⟨bk, o + 10, none⟩ = some (.int .u64 (c : Int)) := (hcell 3 _ rfl).2.1
  have hkey : ∀ j k, ks[j]? = some k → w.cell? ⟨bk, o + 15 + j * 3, none⟩ = some (.bool true) ∧ w.cell? ⟨bk, o + 15 + j * 3 + 1, none⟩ = some (.int .u64 0) ∧ w.cell? ⟨bk, o + 15 + j * 3 + 2, none⟩ = some (.string k) := fun j k hj => by
    have := hcell (5 + j) (txtP k) (by
      unfold keyP
      rw [List.getElem?_append_right (by simp)]
      simp [hj])
    rw [show o + (5 + j) * 3 = o + 15 + j * 3 by omega] at this
    exact this
  have HKY := Lib.hid hkey
  clear hC hcell hkey
  obtain ⟨n, hn⟩ : ∃ n, n = ks.length := ⟨_, rfl⟩
  have HN := Lib.hid hn
  rw [← hn] at hcp hks ⊢
  clear hn
  have s4 : (4 : Int) ≤ ((n + 5 : Nat) : Int) := by omega
  have s4' : (4 : Int) ≤ (n : Int) + 5 := by omega
  have z0 : (0 : Int) < (n : Int) + 5 := by omega
  have z1 : (1 : Int) < (n : Int) + 5 := by omega
  have z2 : (2 : Int) < (n : Int) + 5 := by omega
  have z3 : (3 : Int) < (n : Int) + 5 := by omega
  have s1 : (1 : Int) ≤ (n : Int) + 1 := by omega
  have HO := (Own.start w).alloc' (.cells #[.int .i64 0, .int .u64 0, .int .u64 0, .int .u64 0, .string ⟨#[]⟩, .string ⟨#[]⟩, .int .u64 0, .int .u64 0, .string ⟨#[]⟩, .int .u64 0, .int .u64 0, .string ⟨#[]⟩, .slice none 0 0] 25) rfl
  go_enter Try.func27, Try.ntmps27
  go_wp2_with fail
  refine bstart (fun w => w.heap.size) (n := 20) (ds := [19]) #[false, false, false, false, false, false, false, false, false, false, false, false, false, false, false, false, false, false, false, false] (by kernel_rfl) rfl rfl (Nat.le_refl _) (fun HBS => ?_)
  refine bseq (m := 2) (.inl rfl) [(0, true, some 6), (1, true, some 7), (2, true, some 8), (5, true, some 11), (6, true, some 12), (7, true, some 13), (9, true, some 15), (10, true, some 16), (11, true, some 17), (13, true, some 19), (14, true, some 20), (15, true, some 21), (3, true, some 9), (4, true, some 10), (8, true, some 14), (12, true, some 18), (16, true, some 22), (17, true, some 23)] #[true, true, true, true, true, true, true, true, true, true, true, true, true, true, true, true, true, true, false, false] HBS (by kernel_rfl) rfl (fun _ _ _ _ _ h => h) ?_
  (refine sP (v := ?_) (a' := ?_) rfl rfl (by rfl) ?_ ?_ ?_; rotate_left 2; (· intro w'; go_simp; with_reducible rfl); (· simp only [Act.put, List.setIfInBounds_toArray, List.set_cons_zero, List.set_cons_succ, kw64, kw32]; rfl))
  (refine sP (v := ?_) (a' := ?_) rfl rfl (by rfl) ?_ ?_ ?_; rotate_left 2; (· intro w'; go_simp; with_reducible rfl); (· simp only [Act.put, List.setIfInBounds_toArray, List.set_cons_zero, List.set_cons_succ, kw64, kw32]; rfl))
  (refine sP (v := ?_) (a' := ?_) rfl rfl (by rfl) ?_ ?_ ?_; rotate_left 2; (· intro w'; go_simp; with_reducible rfl); (· simp only [Act.put, List.setIfInBounds_toArray, List.set_cons_zero, List.set_cons_succ, kw64, kw32]; rfl))
  (refine sP (v := ?_) (a' := ?_) rfl rfl (by rfl) ?_ ?_ ?_; rotate_left 2; (· intro w'; go_simp; with_reducible rfl); (· simp only [Act.put, List.setIfInBounds_toArray, List.set_cons_zero, List.set_cons_succ, kw64, kw32]; rfl))
  (refine sP (v := ?_) (a' := ?_) rfl rfl (by rfl) ?_ ?_ ?_; rotate_left 2; (· intro w'; go_simp; with_reducible rfl); (· simp only [Act.put, List.setIfInBounds_toArray, List.set_cons_zero, List.set_cons_succ, kw64, kw32]; rfl))
  (refine sP (v := ?_) (a' := ?_) rfl rfl (by rfl) ?_ ?_ ?_; rotate_left 2; (· intro w'; go_simp; with_reducible rfl); (· simp only [Act.put, List.setIfInBounds_toArray, List.set_cons_zero, List.set_cons_succ, kw64, kw32]; rfl))
  (refine sP (v := ?_) (a' := ?_) rfl rfl (by rfl) ?_ ?_ ?_; rotate_left 2; (· intro w'; go_simp; with_reducible rfl); (· simp only [Act.put, List.setIfInBounds_toArray, List.set_cons_zero, List.set_cons_succ, kw64, kw32]; rfl))
  (refine sP (v := ?_) (a' := ?_) rfl rfl (by rfl) ?_ ?_ ?_; rotate_left 2; (· intro w'; go_simp; with_reducible rfl); (· simp only [Act.put, List.setIfInBounds_toArray, List.set_cons_zero, List.set_cons_succ, kw64, kw32]; rfl))
  (refine sP (v := ?_) (a' := ?_) rfl rfl (by rfl) ?_ ?_ ?_; rotate_left 2; (· intro w'; go_simp; with_reducible rfl); (· simp only [Act.put, List.setIfInBounds_toArray, List.set_cons_zero, List.set_cons_succ, kw64, kw32]; rfl))
  (refine sP (v := ?_) (a' := ?_) rfl rfl (by rfl) ?_ ?_ ?_; rotate_left 2; (· intro w'; go_simp; with_reducible rfl); (· simp only [Act.put, List.setIfInBounds_toArray, List.set_cons_zero, List.set_cons_succ, kw64, kw32]; rfl))
  (refine sP (v := ?_) (a' := ?_) rfl rfl (by rfl) ?_ ?_ ?_; rotate_left 2; (· intro w'; go_simp; with_reducible rfl); (· simp only [Act.put, List.setIfInBounds_toArray, List.set_cons_zero, List.set_cons_succ, kw64, kw32]; rfl))
  (refine sP (v := ?_) (a' := ?_) rfl rfl (by rfl) ?_ ?_ ?_; rotate_left 2; (· intro w'; go_simp; with_reducible rfl); (· simp only [Act.put, List.setIfInBounds_toArray, List.set_cons_zero, List.set_cons_succ, kw64, kw32]; rfl))
  (refine sB (v := ?_) (a' := ?_) rfl rfl (by rfl) ?_ ?_ ?_; rotate_left 2; (· intro w1 hg; have e1 := pw_cell_below (HO.up hg).below d1; have e4 := pw_cell_below (HO.up hg).below d4; have e7 := pw_cell_below (HO.up hg).below d7; have e10 := pw_cell_below (HO.up hg).below d10; go_simp; with_reducible rfl); (· simp only [Act.put, List.setIfInBounds_toArray, List.set_cons_zero, List.set_cons_succ, kw64, kw32]; rfl))
  (refine sP (v := .int .i64 2) (a' := ?_) rfl rfl (by rfl) ?_ ?_ ?_; rotate_left 1; (· intro w'; go_simp; try rfl); (· simp only [Act.put, List.setIfInBounds_toArray, List.set_cons_zero, List.set_cons_succ, kw64, kw32]; rfl))
  (refine sB (v := ?_) (a' := ?_) rfl rfl (by rfl) ?_ ?_ ?_; rotate_left 2; (· intro w1 hg; have e1 := pw_cell_below (HO.up hg).below d1; have e4 := pw_cell_below (HO.up hg).below d4; have e7 := pw_cell_below (HO.up hg).below d7; have e10 := pw_cell_below (HO.up hg).below d10; go_simp; with_reducible rfl); (· simp only [Act.put, List.setIfInBounds_toArray, List.set_cons_zero, List.set_cons_succ, kw64, kw32]; rfl))
  (refine sB (v := ?_) (a' := ?_) rfl rfl (by rfl) ?_ ?_ ?_; rotate_left 2; (· intro w1 hg; have e1 := pw_cell_below (HO.up hg).below d1; have e4 := pw_cell_below (HO.up hg).below d4; have e7 := pw_cell_below (HO.up hg).below d7; have e10 := pw_cell_below (HO.up hg).below d10; go_simp; with_reducible rfl); (· simp only [Act.put, List.setIfInBounds_toArray, List.set_cons_zero, List.set_cons_succ, kw64, kw32]; rfl))
  (refine sB (v := ?_) (a' := ?_) rfl rfl (by rfl) ?_ ?_ ?_; rotate_left 2; (· intro w1 hg; have e1 := pw_cell_below (HO.up hg).below d1; have e4 := pw_cell_below (HO.up hg).below d4; have e7 := pw_cell_below (HO.up hg).below d7; have e10 := pw_cell_below (HO.up hg).below d10; go_simp; with_reducible rfl); (· simp only [Act.put, List.setIfInBounds_toArray, List.set_cons_zero, List.set_cons_succ, kw64, kw32]; rfl))
  (refine sP (v := ?_) (a' := ?_) rfl rfl (by rfl) ?_ ?_ ?_; rotate_left 2; (· intro w'; go_simp; with_reducible rfl); (· simp only [Act.put, List.setIfInBounds_toArray, List.set_cons_zero, List.set_cons_succ, kw64, kw32]; rfl))
  refine bone (i := 18) (N := (some 3)) #[true, true, true, true, true, true, true, true, true, true, true, true, true, true, true, true, true, true, true, false] rfl rfl (by kernel_rfl) HBS (fun w1 hg K hK => ?_)
  rw [if_pos (by rfl)]
  replace HO := HO.up hg
  have hz := HO.lt 0 rfl
  go_simp
  refine hK _ _ (not_ds (by decide) (below_alloc (Below.refl _ _) _)) (fun HBS => ?_)
  replace HO := HO.alloc (.cells #[.int .i64 0, .int .u64 0, .int .u64 0, .int .u64 0, .string ⟨#[]⟩, .string ⟨#[]⟩, .int .u64 0, .int .u64 0, .string ⟨#[]⟩, .int .u64 0, .int .u64 0, .string ⟨#[]⟩, .slice none 0 0] 25)
  have hga := Below.size hg
  clear hg K hK hz
  generalize w1.alloc (.cells #[.int .i64 0, .int .u64 0, .int .u64 0, .int .u64 0, .string ⟨#[]⟩, .string ⟨#[]⟩, .int .u64 0, .int .u64 0, .string ⟨#[]⟩, .int .u64 0, .int .u64 0, .string ⟨#[]⟩, .slice none 0 0] 25) = wa at *
  generalize w1.heap.size = ga at *
  refine bone (i := 19) (N := none) #[true, true, true, true, true, true, true, true, true, true, true, true, true, true, true, true, true, true, true, true] rfl rfl (by kernel_rfl) HBS (fun w1 hg K hK => ?_)
  rw [if_pos (by rfl)]
  replace HO := HO.up hg
  refine wp_store_row 25 (.tmp 3) (.tmp 23) rfl ga #[.int .i64 2, .int .u64 (a : Int), .int .u64 (b : Int), .int .u64 (c : Int), .string ⟨#[]⟩, .string ⟨#[]⟩, .int .u64 0, .int .u64 0, .string ⟨#[]⟩, .int .u64 0, .int .u64 0, .string ⟨#[]⟩, (.slice none 0 0)] (by rfl) (by rfl) _ _ (HO.blk 0 rfl) (by kernel_rfl) rfl (frC_one _ _ _ _ _ _ _ _ _ _ _ _ _ _ _) ?_
  refine hK _ _ (in_ds (by decide) (bel_setRow (by omega) _)) (fun HBS => ?_)
  replace HO := HO.setRow 0 rfl #[.int .i64 2, .int .u64 (a : Int), .int .u64 (b : Int), .int .u64 (c : Int), .string ⟨#[]⟩, .string ⟨#[]⟩, .int .u64 0, .int .u64 0, .string ⟨#[]⟩, .int .u64 0, .int .u64 0, .string ⟨#[]⟩, (.slice none 0 0)] (L' := [(ga, .cells #[.int .i64 2, .int .u64 (a : Int), .int .u64 (b : Int), .int .u64 (c : Int), .string ⟨#[]⟩, .string ⟨#[]⟩, .int .u64 0, .int .u64 0, .string ⟨#[]⟩, .int .u64 0, .int .u64 0, .string ⟨#[]⟩, (.slice none 0 0)] 25 (0, 0)), (w.heap.size, .cells #[.int .i64 0, .int .u64 0, .int .u64 0, .int .u64 0, .string ⟨#[]⟩, .string ⟨#[]⟩, .int .u64 0, .int .u64 0, .string ⟨#[]⟩, .int .u64 0, .int .u64 0, .string ⟨#[]⟩, .slice none 0 0] 25 (0, 0))]) rfl
  clear hg K hK
  revert HO HBS
  generalize World.setRow w1 _ _ = wb
  intro HBS HO
  refine bdone (by kernel_rfl) (fun w1 hg => ?_)
  replace HO := HO.up hg
  clear hg
  have c0 := HO.cell 0 rfl 0
  by_cases h5 : cp - 4 = 1
  · have HN0 := Lib.hid (show n = 0 by omega)
    go_wp2_with fail
    clear c0
    have HG := Lib.hid (HO.lt 0 rfl)
    have HO0 := Lib.hid HO
    clear HO
    go_loopw [78] (fun c78 wr => ∃ i : Nat, c78 = .int .i64 (i : Int) ∧ Aside0 (i ≤ n ∧ ∃ v, Own w [(ga, .cells #[.int .i64 2, .int .u64 (a : Int), .int .u64 (b : Int), .int .u64 (c : Int), .string ⟨#[]⟩, .string ⟨#[]⟩, .int .u64 0, .int .u64 0, .string ⟨#[]⟩, .int .u64 0, .int .u64 0, .string ⟨#[]⟩, v] 25 (0, 0)), (w.heap.size, .cells #[.int .i64 0, .int .u64 0, .int .u64 0, .int .u64 0, .string ⟨#[]⟩, .string ⟨#[]⟩, .int .u64 0, .int .u64 0, .string ⟨#[]⟩, .int .u64 0, .int .u64 0, .string ⟨#[]⟩, .slice none 0 0] 25 (0, 0))] wr ∧ wr.ownsRow (ga + 1) 9 1 v i ((ks.take i).map Value.string))) (fun c78 _ => n - (intOf c78).toNat)
    case atStart => exact ⟨0, rfl, ⟨by omega, _, HO0.out, own_nil _ _ _ _⟩⟩
    case round =>
      clear HO0
      obtain ⟨i, rfl, hrel⟩ := hrel
      obtain ⟨hi, v, HO, hR⟩ := hrel.out
      clear hrel
      by_cases hlt : i < n
      · (have := HN0.out; omega)
      · obtain rfl : i = n := by omega
        have hge' : ¬ ((i : Int) < (i : Int)) := by omega
        obtain ⟨A', cap, rfl⟩ := own_shapeF hR
        rw [List.take_of_length_le (by have := HN.out; omega)] at hR
        clear hge'
        have hge' : ¬ ((i : Int) < (i : Int)) := by omega
        have HRh := Lib.hid hR
        clear hR
        go_wp2_with (first | (refine wpList_load_row rfl 25 (.tmp 3) rfl ga (by rfl) _ #[.int .i64 2, .int .u64 (a : Int), .int .u64 (b : Int), .int .u64 (c : Int), .string ⟨#[]⟩, .string ⟨#[]⟩, .int .u64 0, .int .u64 0, .string ⟨#[]⟩, .int .u64 0, .int .u64 0, .string ⟨#[]⟩, (.slice A' i cap)] _ _ (HO.blk 0 rfl) Try.underlying25 rfl (by kernel_rfl) ?_) | (refine wpList_store_row rfl 25 (.tmp 2) (.tmp 90) rfl w.heap.size #[.int .i64 2, .int .u64 (a : Int), .int .u64 (b : Int), .int .u64 (c : Int), .string ⟨#[]⟩, .string ⟨#[]⟩, .int .u64 0, .int .u64 0, .string ⟨#[]⟩, .int .u64 0, .int .u64 0, .string ⟨#[]⟩, (.slice A' i cap)] (by rfl) (by rfl) _ _ (HO.blk 1 rfl) (by kernel_rfl) rfl (frC_one _ _ _ _ _ _ _ _ _ _ _ _ _ _ _) ?_))
        have hne : ∀ k, (Value.slice A' i cap).ownBlock = some k → k ≠ w.heap.size := fun k hk => by have h1 := own_base HRh.out k hk; have := HO.lt 1 rfl; have := HO.ge 0 rfl; omega
        have HR2 := own_move HRh.out (w1 := wr.setRow w.heap.size #[.int .i64 2, .int .u64 (a : Int), .int .u64 (b : Int), .int .u64 (c : Int), .string ⟨#[]⟩, .string ⟨#[]⟩, .int .u64 0, .int .u64 0, .string ⟨#[]⟩, .int .u64 0, .int .u64 0, .string ⟨#[]⟩, (.slice A' i cap)]) (fun k hk => setRow_other wr w.heap.size k _ (hne k hk))
        replace HO := HO.setRow 1 rfl #[.int .i64 2, .int .u64 (a : Int), .int .u64 (b : Int), .int .u64 (c : Int), .string ⟨#[]⟩, .string ⟨#[]⟩, .int .u64 0, .int .u64 0, .string ⟨#[]⟩, .int .u64 0, .int .u64 0, .string ⟨#[]⟩, (.slice A' i cap)] (L' := [(ga, .cells #[.int .i64 2, .int .u64 (a : Int), .int .u64 (b : Int), .int .u64 (c : Int), .string ⟨#[]⟩, .string ⟨#[]⟩, .int .u64 0, .int .u64 0, .string ⟨#[]⟩, .int .u64 0, .int .u64 0, .string ⟨#[]⟩, (.slice A' i cap)] 25 (0, 0)), (w.heap.size, .cells #[.int .i64 2, .int .u64 (a : Int), .int .u64 (b : Int), .int .u64 (c : Int), .string ⟨#[]⟩, .string ⟨#[]⟩, .int .u64 0, .int .u64 0, .string ⟨#[]⟩, .int .u64 0, .int .u64 0, .string ⟨#[]⟩, (.slice A' i cap)] 25 (0, 0))]) rfl
        exact bodyPost_ret (v := .agg #[.int .i64 2, .int .u64 (a : Int), .int .u64 (b : Int), .int .u64 (c : Int), .string ⟨#[]⟩, .string ⟨#[]⟩, .int .u64 0, .int .u64 0, .string ⟨#[]⟩, .int .u64 0, .int .u64 0, .string ⟨#[]⟩, (.slice A' i cap)]) (results_cell_row Try.results27 _ _ w.heap.size 25 _ (0, 0) _ (by rfl) (HO.blk 1 rfl) Try.underlying25 rfl (by kernel_rfl)) rfl ⟨⟨_, rfl, outRowF HR2 HN.out.symm⟩, HO.below⟩
  · go_wp2_with fail
    clear c0
    have HG := Lib.hid (HO.lt 0 rfl)
    have HO0 := Lib.hid HO
    clear HO
    go_loopw [78] (fun c78 wr => ∃ i : Nat, c78 = .int .i64 (i : Int) ∧ Aside0 (i ≤ n ∧ ∃ v, Own w [(ga, .cells #[.int .i64 2, .int .u64 (a : Int), .int .u64 (b : Int), .int .u64 (c : Int), .string ⟨#[]⟩, .string ⟨#[]⟩, .int .u64 0, .int .u64 0, .string ⟨#[]⟩, .int .u64 0, .int .u64 0, .string ⟨#[]⟩, v] 25 (0, 0)), (w.heap.size, .cells #[.int .i64 0, .int .u64 0, .int .u64 0, .int .u64 0, .string ⟨#[]⟩, .string ⟨#[]⟩, .int .u64 0, .int .u64 0, .string ⟨#[]⟩, .int .u64 0, .int .u64 0, .string ⟨#[]⟩, .slice none 0 0] 25 (0, 0))] wr ∧ wr.ownsRow (ga + 1) 9 1 v i ((ks.take i).map Value.string))) (fun c78 _ => n - (intOf c78).toNat)
    case atStart => exact ⟨0, rfl, ⟨by omega, _, HO0.out, own_nil _ _ _ _⟩⟩
    case round =>
      clear HO0
      obtain ⟨i, rfl, hrel⟩ := hrel
      obtain ⟨hi, v, HO, hR⟩ := hrel.out
      clear hrel
      by_cases hlt : i < n
      · have i1 : (i : Int) < (n : Int) := by omega
        have i0 : (0 : Int) ≤ (i : Int) := by omega
        obtain ⟨k, hk⟩ : ∃ k, ks[i]? = some k := ⟨_, List.getElem?_eq_getElem (by have := HN.out; omega)⟩
        obtain ⟨e0, e1, e2⟩ := HKY.out i k hk
        replace e0 := pw_cell_below HO.below e0
        replace e1 := pw_cell_below HO.below e1
        replace e2 := pw_cell_below HO.below e2
        have HMK := Lib.hid (show (ks.take (i + 1)).map Value.string = (ks.take i).map Value.string ++ [.string k] by rw [List.take_add_one, hk, List.map_append]; rfl)
        clear hk
        have HO1 := HO.alloc' (.cells #[.bool true, .int .u64 0, .string k] 67) rfl
        have hsz : (wr.alloc (.cells #[.bool true, .int .u64 0, .string k] 67)).heap.size = wr.heap.size + 1 := by simp
        have hC2 := cell_one_new (wr.alloc (.cells #[.bool true, .int .u64 0, .string k] 67)) (.string k) 9
        rw [hsz] at hC2
        have hlo : ga + 1 ≤ wr.heap.size + 1 := by have := HO.lt 0 rfl; omega
        have hge := HO.ge 0 rfl
        have hltg := HO.lt 0 rfl
        have hltw := HO.lt 1 rfl
        have HLT := Lib.hid (fun (q : Nat) (hq : v.ownBlock = some q) => own_lt hR q hq)
        have HBS := Lib.hid (fun (q : Nat) (hq : v.ownBlock = some q) => own_base hR q hq)
        have HR1 := Lib.hid (hR.alloc (.cells #[.bool true, .int .u64 0, .string k] 67))
        have HC2 := Lib.hid hC2
        have HSZ := Lib.hid hsz
        have HO1h := Lib.hid HO1
        have c0 := HO1.cell 0 rfl
        have c12 := HO1.cell 1 rfl 12
        have f12 := HO1.frozen 1 rfl 12
        obtain ⟨i0', hi0, hz0, hz1, hz2⟩ := info_parts info_strF
        clear hsz hC2 hR HO HO1
        go_wp2_with (at_builtin; refine wpList_append_own _ rfl (.tmp 83) (.tmp 86) 23 rfl (ga + 1) 9 i0' (.string ⟨#[]⟩) 1 16 Try.underlying23 hi0 hz0 hz1 hz2 rfl (by decide) _ _ _ rfl (HR1.out.alloc _) ⟨wr.heap.size + 1, 0, none⟩ 1 1 [.string k] rfl rfl HC2.out (by intro u hu; rw [List.mem_singleton.1 hu]; rfl) (by unfold maxLen; omega) (by omega) (by rw [World.size_alloc, HSZ.out]; omega) ?_; intro v' w2 hR3 hg2 _; obtain ⟨g', cap', rfl, hgb⟩ := own_sliceF hR3; have HO := (HO1h.out.up (below_alloc (Below.refl _ _) _)).grownF hg2 (fun q hq => by have h1 := HBS.out q hq; have h2 := HLT.out q hq; exact ⟨by omega, by simp; omega⟩); clear c0 c12 f12; have f12 := HO.frozen 1 rfl 12; have c12 := HO.cell 1 rfl 12)
        have hR4 := own_move hR3 (w1 := w2.setCell ⟨ga, 12, none⟩ (.slice (some ⟨g', 0, none⟩) (i + 1) cap')) (fun q hq => Below.heap_setCell _ _ _ q (by have := own_base hR3 q hq; show q ≠ ga; omega))
        replace HO := (HO.set' 1 rfl 12 (.slice (some ⟨g', 0, none⟩) (i + 1) cap') (L' := [(wr.heap.size, .cells #[.bool true, .int .u64 0, .string k] 67 (0, 0)), (ga, .cells #[.int .i64 2, .int .u64 (a : Int), .int .u64 (b : Int), .int .u64 (c : Int), .string ⟨#[]⟩, .string ⟨#[]⟩, .int .u64 0, .int .u64 0, .string ⟨#[]⟩, .int .u64 0, .int .u64 0, .string ⟨#[]⟩, (.slice (some ⟨g', 0, none⟩) (i + 1) cap')] 25 (0, 0)), (w.heap.size, .cells #[.int .i64 0, .int .u64 0, .int .u64 0, .int .u64 0, .string ⟨#[]⟩, .string ⟨#[]⟩, .int .u64 0, .int .u64 0, .string ⟨#[]⟩, .int .u64 0, .int .u64 0, .string ⟨#[]⟩, .slice none 0 0] 25 (0, 0))]) rfl).drop _ (List.tail_sublist _)
        rw [← HMK.out] at hR4
        have HOh := Lib.hid HO
        have HRh := Lib.hid hR4
        clear f12 c12 HC2 HR1 HO1h HO hR3 hR4 e0 e1 e2
        go_roundw
        case rel => exact ⟨i + 1, by go_num, ⟨by omega, _, HOh.out, HRh.out⟩⟩
        case measure => simp [intOf]; omega
      · obtain rfl : i = n := by omega
        have hge' : ¬ ((i : Int) < (i : Int)) := by omega
        obtain ⟨A', cap, rfl⟩ := own_shapeF hR
        rw [List.take_of_length_le (by have := HN.out; omega)] at hR
        clear hge'
        have hge' : ¬ ((i : Int) < (i : Int)) := by omega
        have HRh := Lib.hid hR
        clear hR
        go_wp2_with (first | (refine wpList_load_row rfl 25 (.tmp 3) rfl ga (by rfl) _ #[.int .i64 2, .int .u64 (a : Int), .int .u64 (b : Int), .int .u64 (c : Int), .string ⟨#[]⟩, .string ⟨#[]⟩, .int .u64 0, .int .u64 0, .string ⟨#[]⟩, .int .u64 0, .int .u64 0, .string ⟨#[]⟩, (.slice A' i cap)] _ _ (HO.blk 0 rfl) Try.underlying25 rfl (by kernel_rfl) ?_) | (refine wpList_store_row rfl 25 (.tmp 2) (.tmp 90) rfl w.heap.size #[.int .i64 2, .int .u64 (a : Int), .int .u64 (b : Int), .int .u64 (c : Int), .string ⟨#[]⟩, .string ⟨#[]⟩, .int .u64 0, .int .u64 0, .string ⟨#[]⟩, .int .u64 0, .int .u64 0, .string ⟨#[]⟩, (.slice A' i cap)] (by rfl) (by rfl) _ _ (HO.blk 1 rfl) (by kernel_rfl) rfl (frC_one _ _ _ _ _ _ _ _ _ _ _ _ _ _ _) ?_))
        have hne : ∀ k, (Value.slice A' i cap).ownBlock = some k → k ≠ w.heap.size := fun k hk => by have h1 := own_base HRh.out k hk; have := HO.lt 1 rfl; have := HO.ge 0 rfl; omega
        have HR2 := own_move HRh.out (w1 := wr.setRow w.heap.size #[.int .i64 2, .int .u64 (a : Int), .int .u64 (b : Int), .int .u64 (c : Int), .string ⟨#[]⟩, .string ⟨#[]⟩, .int .u64 0, .int .u64 0, .string ⟨#[]⟩, .int .u64 0, .int .u64 0, .string ⟨#[]⟩, (.slice A' i cap)]) (fun k hk => setRow_other wr w.heap.size k _ (hne k hk))
        replace HO := HO.setRow 1 rfl #[.int .i64 2, .int .u64 (a : Int), .int .u64 (b : Int), .int .u64 (c : Int), .string ⟨#[]⟩, .string ⟨#[]⟩, .int .u64 0, .int .u64 0, .string ⟨#[]⟩, .int .u64 0, .int .u64 0, .string ⟨#[]⟩, (.slice A' i cap)] (L' := [(ga, .cells #[.int .i64 2, .int .u64 (a : Int), .int .u64 (b : Int), .int .u64 (c : Int), .string ⟨#[]⟩, .string ⟨#[]⟩, .int .u64 0, .int .u64 0, .string ⟨#[]⟩, .int .u64 0, .int .u64 0, .string ⟨#[]⟩, (.slice A' i cap)] 25 (0, 0)), (w.heap.size, .cells #[.int .i64 2, .int .u64 (a : Int), .int .u64 (b : Int), .int .u64 (c : Int), .string ⟨#[]⟩, .string ⟨#[]⟩, .int .u64 0, .int .u64 0, .string ⟨#[]⟩, .int .u64 0, .int .u64 0, .string ⟨#[]⟩, (.slice A' i cap)] 25 (0, 0))]) rfl
        exact bodyPost_ret (v := .agg #[.int .i64 2, .int .u64 (a : Int), .int .u64 (b : Int), .int .u64 (c : Int), .string ⟨#[]⟩, .string ⟨#[]⟩, .int .u64 0, .int .u64 0, .string ⟨#[]⟩, .int .u64 0, .int .u64 0, .string ⟨#[]⟩, (.slice A' i cap)]) (results_cell_row Try.results27 _ _ w.heap.size 25 _ (0, 0) _ (by rfl) (HO.blk 1 rfl) Try.underlying25 rfl (by kernel_rfl)) rfl ⟨⟨_, rfl, outRowF HR2 HN.out.symm⟩, HO.below⟩
end Go.Proofs.Ytfghjahmnjghgaa

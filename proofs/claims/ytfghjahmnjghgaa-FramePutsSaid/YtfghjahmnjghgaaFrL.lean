import Derived.Test.YtfghjahmnjghgaaFrJ
set_option linter.unusedSimpArgs false
set_option linter.unusedVariables false
/- LAYER 8: the document's bytes of frames. -/
namespace Go.Proofs.Ytfghjahmnjghgaa
open Go.RowKit Go.Proofs.YtfghjahmnjghgaaW.PrintWords
theorem oneS_le (p : PartD) (h : longP p = false) (hn : p.n < 18446744073709551616) : (oneS p).size ≤ 1033 := by
  have := oneL_len p h hn
  rw [← data_length]
  have e : (oneS p).data.toList = oneL p := by
    unfold oneS oneL
    split
    · rw [ByteArray.data_append, Array.toList_append]
    · rfl
  rw [e]; exact this
attribute [local irreducible] Calls
set_option maxHeartbeats 8000000 in
set_option maxRecDepth 100000 in
theorem RHead_2 (a b c : Nat) (i ba : ByteArray) (sg on : Nat) (ra : ByteArray) (pv nn : Nat) (bo : ByteArray) (ks : List ByteArray) (A : Option Addr) (n cp : Nat) (w : World) (ho : okF ⟨2, a, b, c, i, ba, sg, on, ra, pv, nn, bo, ks⟩) (hr : rightF ⟨2, a, b, c, i, ba, sg, on, ra, pv, nn, bo, ks⟩ = true) :
    Calls Try.prog 14 #[.agg #[.int .i64 2, .int .u64 (a : Int), .int .u64 (b : Int), .int .u64 (c : Int), .string i, .string ba, .int .u64 (sg : Int), .int .u64 (on : Int), .string ra, .int .u64 (pv : Int), .int .u64 (nn : Int), .string bo, .slice A n cp]] w fun e w' => e = .returned (.string (pk (headP ⟨2, a, b, c, i, ba, sg, on, ra, pv, nn, bo, ks⟩))) ∧ Below w.heap.size w w' := by
  obtain ⟨o1, o2, o3, o4, o5, o6, o7⟩ := ho
  obtain ⟨s1, s2, _⟩ := right_sizes _ hr
  dsimp only at *
  have hE : pk (headP ⟨2, a, b, c, i, ba, sg, on, ra, pv, nn, bo, ks⟩) = oneS (numP 2) ++ oneS (numP a) ++ oneS (numP b) ++ oneS (numP c) := by
    rw [show headP ⟨2, a, b, c, i, ba, sg, on, ra, pv, nn, bo, ks⟩ = [numP 2] ++ [numP a] ++ [numP b] ++ [numP c] from rfl]
    simp only [pk_app, pk_one]
  rw [hE]
  clear hE
  have Hpk0 := Lib.hid (fun w1 => show Calls Try.prog 33 #[.int .u64 2] w1 (fun e w' => e = .returned (.string (oneS (numP 2))) ∧ Below w1.heap.size w1 w') from RNumber_any 2 w1 (by decide))
  have zpk0 := oneS_le (numP 2) (num_short _) (by decide)
  have Hpa := Lib.hid (fun w1 => show Calls Try.prog 33 #[.int .u64 (a : Int)] w1 (fun e w' => e = .returned (.string (oneS (numP a))) ∧ Below w1.heap.size w1 w') from RNumber_any a w1 o1)
  have zpa := oneS_le (numP a) (num_short _) o1
  have Hpb := Lib.hid (fun w1 => show Calls Try.prog 33 #[.int .u64 (b : Int)] w1 (fun e w' => e = .returned (.string (oneS (numP b))) ∧ Below w1.heap.size w1 w') from RNumber_any b w1 o2)
  have zpb := oneS_le (numP b) (num_short _) o2
  have Hpc := Lib.hid (fun w1 => show Calls Try.prog 33 #[.int .u64 (c : Int)] w1 (fun e w' => e = .returned (.string (oneS (numP c))) ∧ Below w1.heap.size w1 w') from RNumber_any c w1 o3)
  have zpc := oneS_le (numP c) (num_short _) o3
  clear o1 o2 o3 o4 o5 o6 o7 s1 s2 hr
  generalize oneS (numP 2) = pk0 at *
  generalize oneS (numP a) = pa at *
  generalize oneS (numP b) = pb at *
  generalize oneS (numP c) = pc at *
  have g0 : ¬ (pk0.size + pa.size > 9223372036854775807) := by omega
  have g1 : ¬ (pk0.size + pa.size + pb.size > 9223372036854775807) := by omega
  have g2 : ¬ (pk0.size + pa.size + pb.size + pc.size > 9223372036854775807) := by omega
  clear zpk0 zpa zpb zpc
  have HO := (Own.start w).alloc' (.cells #[.int .i64 2, .int .u64 (a : Int), .int .u64 (b : Int), .int .u64 (c : Int), .string i, .string ba, .int .u64 (sg : Int), .int .u64 (on : Int), .string ra, .int .u64 (pv : Int), .int .u64 (nn : Int), .string bo, .slice A n cp] 25) rfl
  go_enter Try.func14, Try.ntmps14
  go_wp2_with fail
  refine kall [(0, true, some 4), (4, true, some 8), (8, true, some 12), (12, true, some 16), (1, true, some 5), (2, true, some 6), (3, true, some 7), (5, true, some 9), (6, true, some 10), (7, true, some 11), (9, true, some 13), (10, true, some 14), (11, true, some 15), (13, true, some 17), (14, true, some 18), (15, true, some 19), (16, true, some 3)] (by kernel_rfl) rfl (by kernel_rfl) rfl (fun _ _ _ _ _ h => h) ?_
  (refine sP (v := ?_) (a' := ?_) rfl rfl (by rfl) ?_ ?_ ?_; rotate_left 2; (· intro w'; go_simp; with_reducible rfl); (· simp only [Act.put, List.setIfInBounds_toArray, List.set_cons_zero, List.set_cons_succ, kw64, kw32]; rfl))
  (refine sP (v := ?_) (a' := ?_) rfl rfl (by rfl) ?_ ?_ ?_; rotate_left 2; (· intro w'; go_simp; with_reducible rfl); (· simp only [Act.put, List.setIfInBounds_toArray, List.set_cons_zero, List.set_cons_succ, kw64, kw32]; rfl))
  (refine sP (v := ?_) (a' := ?_) rfl rfl (by rfl) ?_ ?_ ?_; rotate_left 2; (· intro w'; go_simp; with_reducible rfl); (· simp only [Act.put, List.setIfInBounds_toArray, List.set_cons_zero, List.set_cons_succ, kw64, kw32]; rfl))
  (refine sP (v := ?_) (a' := ?_) rfl rfl (by rfl) ?_ ?_ ?_; rotate_left 2; (· intro w'; go_simp; with_reducible rfl); (· simp only [Act.put, List.setIfInBounds_toArray, List.set_cons_zero, List.set_cons_succ, kw64, kw32]; rfl))
  (refine sB (v := ?_) (a' := ?_) rfl rfl (by rfl) ?_ ?_ ?_; rotate_left 2; (· intro w1 hg; have h9 := (HO.up hg).cell 0 rfl; go_simp; with_reducible rfl); (· simp only [Act.put, List.setIfInBounds_toArray, List.set_cons_zero, List.set_cons_succ, kw64, kw32]; rfl))
  (refine sP (v := .int .u64 2) (a' := ?_) rfl rfl (by rfl) ?_ ?_ ?_; rotate_left 1; (· intro w'; go_simp; try rfl); (· simp only [Act.put, List.setIfInBounds_toArray, List.set_cons_zero, List.set_cons_succ, kw64, kw32]; rfl))
  (refine sD (v := ?_) (a' := ?_) Try.func33 rfl rfl (by rfl) rfl (by kernel_rfl) rfl (by rfl) ?_ ?_ ?_; rotate_left 2; (· intro w1 hg; exact Hpk0.out w1); (· simp only [Act.put, List.setIfInBounds_toArray, List.set_cons_zero, List.set_cons_succ, kw64, kw32]; rfl))
  (refine sB (v := ?_) (a' := ?_) rfl rfl (by rfl) ?_ ?_ ?_; rotate_left 2; (· intro w1 hg; have h9 := (HO.up hg).cell 0 rfl; go_simp; with_reducible rfl); (· simp only [Act.put, List.setIfInBounds_toArray, List.set_cons_zero, List.set_cons_succ, kw64, kw32]; rfl))
  (refine sD (v := ?_) (a' := ?_) Try.func33 rfl rfl (by rfl) rfl (by kernel_rfl) rfl (by rfl) ?_ ?_ ?_; rotate_left 2; (· intro w1 hg; exact Hpa.out w1); (· simp only [Act.put, List.setIfInBounds_toArray, List.set_cons_zero, List.set_cons_succ, kw64, kw32]; rfl))
  (refine sP (v := ?_) (a' := ?_) rfl rfl (by rfl) ?_ ?_ ?_; rotate_left 2; (· intro w'; go_simp; with_reducible rfl); (· simp only [Act.put, List.setIfInBounds_toArray, List.set_cons_zero, List.set_cons_succ, kw64, kw32]; rfl))
  (refine sB (v := ?_) (a' := ?_) rfl rfl (by rfl) ?_ ?_ ?_; rotate_left 2; (· intro w1 hg; have h9 := (HO.up hg).cell 0 rfl; go_simp; with_reducible rfl); (· simp only [Act.put, List.setIfInBounds_toArray, List.set_cons_zero, List.set_cons_succ, kw64, kw32]; rfl))
  (refine sD (v := ?_) (a' := ?_) Try.func33 rfl rfl (by rfl) rfl (by kernel_rfl) rfl (by rfl) ?_ ?_ ?_; rotate_left 2; (· intro w1 hg; exact Hpb.out w1); (· simp only [Act.put, List.setIfInBounds_toArray, List.set_cons_zero, List.set_cons_succ, kw64, kw32]; rfl))
  (refine sP (v := ?_) (a' := ?_) rfl rfl (by rfl) ?_ ?_ ?_; rotate_left 2; (· intro w'; go_simp; with_reducible rfl); (· simp only [Act.put, List.setIfInBounds_toArray, List.set_cons_zero, List.set_cons_succ, kw64, kw32]; rfl))
  (refine sB (v := ?_) (a' := ?_) rfl rfl (by rfl) ?_ ?_ ?_; rotate_left 2; (· intro w1 hg; have h9 := (HO.up hg).cell 0 rfl; go_simp; with_reducible rfl); (· simp only [Act.put, List.setIfInBounds_toArray, List.set_cons_zero, List.set_cons_succ, kw64, kw32]; rfl))
  (refine sD (v := ?_) (a' := ?_) Try.func33 rfl rfl (by rfl) rfl (by kernel_rfl) rfl (by rfl) ?_ ?_ ?_; rotate_left 2; (· intro w1 hg; exact Hpc.out w1); (· simp only [Act.put, List.setIfInBounds_toArray, List.set_cons_zero, List.set_cons_succ, kw64, kw32]; rfl))
  (refine sP (v := ?_) (a' := ?_) rfl rfl (by rfl) ?_ ?_ ?_; rotate_left 2; (· intro w'; go_simp; with_reducible rfl); (· simp only [Act.put, List.setIfInBounds_toArray, List.set_cons_zero, List.set_cons_succ, kw64, kw32]; rfl))
  (refine sP (v := ?_) (a' := ?_) rfl rfl (by rfl) ?_ ?_ ?_; rotate_left 2; (· intro w'; go_simp; with_reducible rfl); (· simp only [Act.put, List.setIfInBounds_toArray, List.set_cons_zero, List.set_cons_succ, kw64, kw32]; rfl))
  intro w1 hg
  replace HO := HO.up hg
  clear hg
  have c0 := HO.cell 0 rfl
  go_wp2
  go_ret
  exact ⟨rfl, HO.below⟩
set_option maxHeartbeats 8000000 in
set_option maxRecDepth 100000 in
theorem RHead_1 (a b c : Nat) (i ba : ByteArray) (sg on : Nat) (ra : ByteArray) (pv nn : Nat) (bo : ByteArray) (ks : List ByteArray) (A : Option Addr) (n cp : Nat) (w : World) (ho : okF ⟨1, a, b, c, i, ba, sg, on, ra, pv, nn, bo, ks⟩) (hr : rightF ⟨1, a, b, c, i, ba, sg, on, ra, pv, nn, bo, ks⟩ = true) :
    Calls Try.prog 14 #[.agg #[.int .i64 1, .int .u64 (a : Int), .int .u64 (b : Int), .int .u64 (c : Int), .string i, .string ba, .int .u64 (sg : Int), .int .u64 (on : Int), .string ra, .int .u64 (pv : Int), .int .u64 (nn : Int), .string bo, .slice A n cp]] w fun e w' => e = .returned (.string (pk (headP ⟨1, a, b, c, i, ba, sg, on, ra, pv, nn, bo, ks⟩))) ∧ Below w.heap.size w w' := by
  obtain ⟨o1, o2, o3, o4, o5, o6, o7⟩ := ho
  obtain ⟨s1, s2, _⟩ := right_sizes _ hr
  dsimp only at *
  have hE : pk (headP ⟨1, a, b, c, i, ba, sg, on, ra, pv, nn, bo, ks⟩) = oneS (numP 1) ++ oneS (numP a) ++ oneS (numP b) ++ oneS (numP c) ++ oneS (txtP ra) ++ oneS (numP pv) ++ oneS (numP nn) := by
    rw [show headP ⟨1, a, b, c, i, ba, sg, on, ra, pv, nn, bo, ks⟩ = [numP 1] ++ [numP a] ++ [numP b] ++ [numP c] ++ [txtP ra] ++ [numP pv] ++ [numP nn] from rfl]
    simp only [pk_app, pk_one]
  rw [hE]
  clear hE
  have Hpk0 := Lib.hid (fun w1 => show Calls Try.prog 33 #[.int .u64 1] w1 (fun e w' => e = .returned (.string (oneS (numP 1))) ∧ Below w1.heap.size w1 w') from RNumber_any 1 w1 (by decide))
  have zpk0 := oneS_le (numP 1) (num_short _) (by decide)
  have Hpa := Lib.hid (fun w1 => show Calls Try.prog 33 #[.int .u64 (a : Int)] w1 (fun e w' => e = .returned (.string (oneS (numP a))) ∧ Below w1.heap.size w1 w') from RNumber_any a w1 o1)
  have zpa := oneS_le (numP a) (num_short _) o1
  have Hpb := Lib.hid (fun w1 => show Calls Try.prog 33 #[.int .u64 (b : Int)] w1 (fun e w' => e = .returned (.string (oneS (numP b))) ∧ Below w1.heap.size w1 w') from RNumber_any b w1 o2)
  have zpb := oneS_le (numP b) (num_short _) o2
  have Hpc := Lib.hid (fun w1 => show Calls Try.prog 33 #[.int .u64 (c : Int)] w1 (fun e w' => e = .returned (.string (oneS (numP c))) ∧ Below w1.heap.size w1 w') from RNumber_any c w1 o3)
  have zpc := oneS_le (numP c) (num_short _) o3
  have Hpra := Lib.hid (fun w1 => text08 ra w1 (by have := s2 (by decide); omega))
  have zpra := oneS_le (txtP ra) (txt_short _ (by have := s2 (by decide); omega)) (show (0 : Nat) < 18446744073709551616 by decide)
  have Hppv := Lib.hid (fun w1 => show Calls Try.prog 33 #[.int .u64 (pv : Int)] w1 (fun e w' => e = .returned (.string (oneS (numP pv))) ∧ Below w1.heap.size w1 w') from RNumber_any pv w1 o6)
  have zppv := oneS_le (numP pv) (num_short _) o6
  have Hpnn := Lib.hid (fun w1 => show Calls Try.prog 33 #[.int .u64 (nn : Int)] w1 (fun e w' => e = .returned (.string (oneS (numP nn))) ∧ Below w1.heap.size w1 w') from RNumber_any nn w1 o7)
  have zpnn := oneS_le (numP nn) (num_short _) o7
  clear o1 o2 o3 o4 o5 o6 o7 s1 s2 hr
  generalize oneS (numP 1) = pk0 at *
  generalize oneS (numP a) = pa at *
  generalize oneS (numP b) = pb at *
  generalize oneS (numP c) = pc at *
  generalize oneS (txtP ra) = pra at *
  generalize oneS (numP pv) = ppv at *
  generalize oneS (numP nn) = pnn at *
  have g0 : ¬ (pk0.size + pa.size > 9223372036854775807) := by omega
  have g1 : ¬ (pk0.size + pa.size + pb.size > 9223372036854775807) := by omega
  have g2 : ¬ (pk0.size + pa.size + pb.size + pc.size > 9223372036854775807) := by omega
  have g3 : ¬ (pk0.size + pa.size + pb.size + pc.size + pra.size > 9223372036854775807) := by omega
  have g4 : ¬ (pk0.size + pa.size + pb.size + pc.size + pra.size + ppv.size > 9223372036854775807) := by omega
  have g5 : ¬ (pk0.size + pa.size + pb.size + pc.size + pra.size + ppv.size + pnn.size > 9223372036854775807) := by omega
  clear zpk0 zpa zpb zpc zpra zppv zpnn
  have HO := (Own.start w).alloc' (.cells #[.int .i64 1, .int .u64 (a : Int), .int .u64 (b : Int), .int .u64 (c : Int), .string i, .string ba, .int .u64 (sg : Int), .int .u64 (on : Int), .string ra, .int .u64 (pv : Int), .int .u64 (nn : Int), .string bo, .slice A n cp] 25) rfl
  go_enter Try.func14, Try.ntmps14
  go_wp2_with fail
  refine kall [(0, true, some 4), (4, true, some 8), (8, true, some 12), (12, true, some 16), (1, true, some 5), (2, true, some 6), (3, true, some 7), (5, true, some 9), (6, true, some 10), (7, true, some 11), (9, true, some 13), (10, true, some 14), (11, true, some 15), (13, true, some 17), (14, true, some 18), (15, true, some 19), (16, true, some 3)] (by kernel_rfl) rfl (by kernel_rfl) rfl (fun _ _ _ _ _ h => h) ?_
  (refine sP (v := ?_) (a' := ?_) rfl rfl (by rfl) ?_ ?_ ?_; rotate_left 2; (· intro w'; go_simp; with_reducible rfl); (· simp only [Act.put, List.setIfInBounds_toArray, List.set_cons_zero, List.set_cons_succ, kw64, kw32]; rfl))
  (refine sP (v := ?_) (a' := ?_) rfl rfl (by rfl) ?_ ?_ ?_; rotate_left 2; (· intro w'; go_simp; with_reducible rfl); (· simp only [Act.put, List.setIfInBounds_toArray, List.set_cons_zero, List.set_cons_succ, kw64, kw32]; rfl))
  (refine sP (v := ?_) (a' := ?_) rfl rfl (by rfl) ?_ ?_ ?_; rotate_left 2; (· intro w'; go_simp; with_reducible rfl); (· simp only [Act.put, List.setIfInBounds_toArray, List.set_cons_zero, List.set_cons_succ, kw64, kw32]; rfl))
  (refine sP (v := ?_) (a' := ?_) rfl rfl (by rfl) ?_ ?_ ?_; rotate_left 2; (· intro w'; go_simp; with_reducible rfl); (· simp only [Act.put, List.setIfInBounds_toArray, List.set_cons_zero, List.set_cons_succ, kw64, kw32]; rfl))
  (refine sB (v := ?_) (a' := ?_) rfl rfl (by rfl) ?_ ?_ ?_; rotate_left 2; (· intro w1 hg; have h9 := (HO.up hg).cell 0 rfl; go_simp; with_reducible rfl); (· simp only [Act.put, List.setIfInBounds_toArray, List.set_cons_zero, List.set_cons_succ, kw64, kw32]; rfl))
  (refine sP (v := .int .u64 1) (a' := ?_) rfl rfl (by rfl) ?_ ?_ ?_; rotate_left 1; (· intro w'; go_simp; try rfl); (· simp only [Act.put, List.setIfInBounds_toArray, List.set_cons_zero, List.set_cons_succ, kw64, kw32]; rfl))
  (refine sD (v := ?_) (a' := ?_) Try.func33 rfl rfl (by rfl) rfl (by kernel_rfl) rfl (by rfl) ?_ ?_ ?_; rotate_left 2; (· intro w1 hg; exact Hpk0.out w1); (· simp only [Act.put, List.setIfInBounds_toArray, List.set_cons_zero, List.set_cons_succ, kw64, kw32]; rfl))
  (refine sB (v := ?_) (a' := ?_) rfl rfl (by rfl) ?_ ?_ ?_; rotate_left 2; (· intro w1 hg; have h9 := (HO.up hg).cell 0 rfl; go_simp; with_reducible rfl); (· simp only [Act.put, List.setIfInBounds_toArray, List.set_cons_zero, List.set_cons_succ, kw64, kw32]; rfl))
  (refine sD (v := ?_) (a' := ?_) Try.func33 rfl rfl (by rfl) rfl (by kernel_rfl) rfl (by rfl) ?_ ?_ ?_; rotate_left 2; (· intro w1 hg; exact Hpa.out w1); (· simp only [Act.put, List.setIfInBounds_toArray, List.set_cons_zero, List.set_cons_succ, kw64, kw32]; rfl))
  (refine sP (v := ?_) (a' := ?_) rfl rfl (by rfl) ?_ ?_ ?_; rotate_left 2; (· intro w'; go_simp; with_reducible rfl); (· simp only [Act.put, List.setIfInBounds_toArray, List.set_cons_zero, List.set_cons_succ, kw64, kw32]; rfl))
  (refine sB (v := ?_) (a' := ?_) rfl rfl (by rfl) ?_ ?_ ?_; rotate_left 2; (· intro w1 hg; have h9 := (HO.up hg).cell 0 rfl; go_simp; with_reducible rfl); (· simp only [Act.put, List.setIfInBounds_toArray, List.set_cons_zero, List.set_cons_succ, kw64, kw32]; rfl))
  (refine sD (v := ?_) (a' := ?_) Try.func33 rfl rfl (by rfl) rfl (by kernel_rfl) rfl (by rfl) ?_ ?_ ?_; rotate_left 2; (· intro w1 hg; exact Hpb.out w1); (· simp only [Act.put, List.setIfInBounds_toArray, List.set_cons_zero, List.set_cons_succ, kw64, kw32]; rfl))
  (refine sP (v := ?_) (a' := ?_) rfl rfl (by rfl) ?_ ?_ ?_; rotate_left 2; (· intro w'; go_simp; with_reducible rfl); (· simp only [Act.put, List.setIfInBounds_toArray, List.set_cons_zero, List.set_cons_succ, kw64, kw32]; rfl))
  (refine sB (v := ?_) (a' := ?_) rfl rfl (by rfl) ?_ ?_ ?_; rotate_left 2; (· intro w1 hg; have h9 := (HO.up hg).cell 0 rfl; go_simp; with_reducible rfl); (· simp only [Act.put, List.setIfInBounds_toArray, List.set_cons_zero, List.set_cons_succ, kw64, kw32]; rfl))
  (refine sD (v := ?_) (a' := ?_) Try.func33 rfl rfl (by rfl) rfl (by kernel_rfl) rfl (by rfl) ?_ ?_ ?_; rotate_left 2; (· intro w1 hg; exact Hpc.out w1); (· simp only [Act.put, List.setIfInBounds_toArray, List.set_cons_zero, List.set_cons_succ, kw64, kw32]; rfl))
  (refine sP (v := ?_) (a' := ?_) rfl rfl (by rfl) ?_ ?_ ?_; rotate_left 2; (· intro w'; go_simp; with_reducible rfl); (· simp only [Act.put, List.setIfInBounds_toArray, List.set_cons_zero, List.set_cons_succ, kw64, kw32]; rfl))
  (refine sP (v := ?_) (a' := ?_) rfl rfl (by rfl) ?_ ?_ ?_; rotate_left 2; (· intro w'; go_simp; with_reducible rfl); (· simp only [Act.put, List.setIfInBounds_toArray, List.set_cons_zero, List.set_cons_succ, kw64, kw32]; rfl))
  intro w1 hg
  replace HO := HO.up hg
  clear hg
  have c0 := HO.cell 0 rfl
  go_wp2_with fail
  clear c0
  refine kall [(0, true, some 43), (1, true, some 44), (5, true, some 48), (9, true, some 52), (2, true, some 45), (3, true, some 46), (4, true, some 47), (6, true, some 49), (7, true, some 50), (8, true, some 51), (10, true, some 53), (11, true, some 54), (12, true, some 55), (13, true, some 3)] (by kernel_rfl) rfl (by kernel_rfl) rfl (fun _ _ _ _ _ h => h) ?_
  (refine sP (v := ?_) (a' := ?_) rfl rfl (by rfl) ?_ ?_ ?_; rotate_left 2; (· intro w'; go_simp; with_reducible rfl); (· simp only [Act.put, List.setIfInBounds_toArray, List.set_cons_zero, List.set_cons_succ, kw64, kw32]; rfl))
  (refine sP (v := ?_) (a' := ?_) rfl rfl (by rfl) ?_ ?_ ?_; rotate_left 2; (· intro w'; go_simp; with_reducible rfl); (· simp only [Act.put, List.setIfInBounds_toArray, List.set_cons_zero, List.set_cons_succ, kw64, kw32]; rfl))
  (refine sP (v := ?_) (a' := ?_) rfl rfl (by rfl) ?_ ?_ ?_; rotate_left 2; (· intro w'; go_simp; with_reducible rfl); (· simp only [Act.put, List.setIfInBounds_toArray, List.set_cons_zero, List.set_cons_succ, kw64, kw32]; rfl))
  (refine sP (v := ?_) (a' := ?_) rfl rfl (by rfl) ?_ ?_ ?_; rotate_left 2; (· intro w'; go_simp; with_reducible rfl); (· simp only [Act.put, List.setIfInBounds_toArray, List.set_cons_zero, List.set_cons_succ, kw64, kw32]; rfl))
  (refine sB (v := ?_) (a' := ?_) rfl rfl (by rfl) ?_ ?_ ?_; rotate_left 2; (· intro w1 hg; have h9 := (HO.up hg).cell 0 rfl; go_simp; with_reducible rfl); (· simp only [Act.put, List.setIfInBounds_toArray, List.set_cons_zero, List.set_cons_succ, kw64, kw32]; rfl))
  (refine sD (v := ?_) (a' := ?_) Try.func32 rfl rfl (by rfl) rfl (by kernel_rfl) rfl (by rfl) ?_ ?_ ?_; rotate_left 2; (· intro w1 hg; exact Hpra.out w1); (· simp only [Act.put, List.setIfInBounds_toArray, List.set_cons_zero, List.set_cons_succ, kw64, kw32]; rfl))
  (refine sP (v := ?_) (a' := ?_) rfl rfl (by rfl) ?_ ?_ ?_; rotate_left 2; (· intro w'; go_simp; with_reducible rfl); (· simp only [Act.put, List.setIfInBounds_toArray, List.set_cons_zero, List.set_cons_succ, kw64, kw32]; rfl))
  (refine sB (v := ?_) (a' := ?_) rfl rfl (by rfl) ?_ ?_ ?_; rotate_left 2; (· intro w1 hg; have h9 := (HO.up hg).cell 0 rfl; go_simp; with_reducible rfl); (· simp only [Act.put, List.setIfInBounds_toArray, List.set_cons_zero, List.set_cons_succ, kw64, kw32]; rfl))
  (refine sD (v := ?_) (a' := ?_) Try.func33 rfl rfl (by rfl) rfl (by kernel_rfl) rfl (by rfl) ?_ ?_ ?_; rotate_left 2; (· intro w1 hg; exact Hppv.out w1); (· simp only [Act.put, List.setIfInBounds_toArray, List.set_cons_zero, List.set_cons_succ, kw64, kw32]; rfl))
  (refine sP (v := ?_) (a' := ?_) rfl rfl (by rfl) ?_ ?_ ?_; rotate_left 2; (· intro w'; go_simp; with_reducible rfl); (· simp only [Act.put, List.setIfInBounds_toArray, List.set_cons_zero, List.set_cons_succ, kw64, kw32]; rfl))
  (refine sB (v := ?_) (a' := ?_) rfl rfl (by rfl) ?_ ?_ ?_; rotate_left 2; (· intro w1 hg; have h9 := (HO.up hg).cell 0 rfl; go_simp; with_reducible rfl); (· simp only [Act.put, List.setIfInBounds_toArray, List.set_cons_zero, List.set_cons_succ, kw64, kw32]; rfl))
  (refine sD (v := ?_) (a' := ?_) Try.func33 rfl rfl (by rfl) rfl (by kernel_rfl) rfl (by rfl) ?_ ?_ ?_; rotate_left 2; (· intro w1 hg; exact Hpnn.out w1); (· simp only [Act.put, List.setIfInBounds_toArray, List.set_cons_zero, List.set_cons_succ, kw64, kw32]; rfl))
  (refine sP (v := ?_) (a' := ?_) rfl rfl (by rfl) ?_ ?_ ?_; rotate_left 2; (· intro w'; go_simp; with_reducible rfl); (· simp only [Act.put, List.setIfInBounds_toArray, List.set_cons_zero, List.set_cons_succ, kw64, kw32]; rfl))
  (refine sP (v := ?_) (a' := ?_) rfl rfl (by rfl) ?_ ?_ ?_; rotate_left 2; (· intro w'; go_simp; with_reducible rfl); (· simp only [Act.put, List.setIfInBounds_toArray, List.set_cons_zero, List.set_cons_succ, kw64, kw32]; rfl))
  intro w1 hg
  replace HO := HO.up hg
  clear hg
  go_wp2
  go_ret
  exact ⟨rfl, HO.below⟩
set_option maxHeartbeats 8000000 in
set_option maxRecDepth 100000 in
theorem RHead_0 (a b c : Nat) (i ba : ByteArray) (sg on : Nat) (ra : ByteArray) (pv nn : Nat) (bo : ByteArray) (ks : List ByteArray) (A : Option Addr) (n cp : Nat) (w : World) (ho : okF ⟨0, a, b, c, i, ba, sg, on, ra, pv, nn, bo, ks⟩) (hr : rightF ⟨0, a, b, c, i, ba, sg, on, ra, pv, nn, bo, ks⟩ = true) :
    Calls Try.prog 14 #[.agg #[.int .i64 0, .int .u64 (a : Int), .int .u64 (b : Int), .int .u64 (c : Int), .string i, .string ba, .int .u64 (sg : Int), .int .u64 (on : Int), .string ra, .int .u64 (pv : Int), .int .u64 (nn : Int), .string bo, .slice A n cp]] w fun e w' => e = .returned (.string (pk (headP ⟨0, a, b, c, i, ba, sg, on, ra, pv, nn, bo, ks⟩))) ∧ Below w.heap.size w w' := by
  obtain ⟨o1, o2, o3, o4, o5, o6, o7⟩ := ho
  obtain ⟨s1, s2, _⟩ := right_sizes _ hr
  dsimp only at *
  have hE : pk (headP ⟨0, a, b, c, i, ba, sg, on, ra, pv, nn, bo, ks⟩) = oneS (numP 0) ++ oneS (numP a) ++ oneS (numP b) ++ oneS (numP c) ++ oneS (txtP i) ++ oneS (txtP ba) ++ oneS (numP sg) ++ oneS (numP on) ++ oneS (txtP ra) ++ oneS (numP pv) ++ oneS (numP nn) := by
    rw [show headP ⟨0, a, b, c, i, ba, sg, on, ra, pv, nn, bo, ks⟩ = [numP 0] ++ [numP a] ++ [numP b] ++ [numP c] ++ [txtP i] ++ [txtP ba] ++ [numP sg] ++ [numP on] ++ [txtP ra] ++ [numP pv] ++ [numP nn] from rfl]
    simp only [pk_app, pk_one]
  rw [hE]
  clear hE
  have Hpk0 := Lib.hid (fun w1 => show Calls Try.prog 33 #[.int .u64 0] w1 (fun e w' => e = .returned (.string (oneS (numP 0))) ∧ Below w1.heap.size w1 w') from RNumber_any 0 w1 (by decide))
  have zpk0 := oneS_le (numP 0) (num_short _) (by decide)
  have Hpa := Lib.hid (fun w1 => show Calls Try.prog 33 #[.int .u64 (a : Int)] w1 (fun e w' => e = .returned (.string (oneS (numP a))) ∧ Below w1.heap.size w1 w') from RNumber_any a w1 o1)
  have zpa := oneS_le (numP a) (num_short _) o1
  have Hpb := Lib.hid (fun w1 => show Calls Try.prog 33 #[.int .u64 (b : Int)] w1 (fun e w' => e = .returned (.string (oneS (numP b))) ∧ Below w1.heap.size w1 w') from RNumber_any b w1 o2)
  have zpb := oneS_le (numP b) (num_short _) o2
  have Hpc := Lib.hid (fun w1 => show Calls Try.prog 33 #[.int .u64 (c : Int)] w1 (fun e w' => e = .returned (.string (oneS (numP c))) ∧ Below w1.heap.size w1 w') from RNumber_any c w1 o3)
  have zpc := oneS_le (numP c) (num_short _) o3
  have Hpi := Lib.hid (fun w1 => text08 i w1 (by have := (s1 rfl).1; omega))
  have zpi := oneS_le (txtP i) (txt_short _ (by have := (s1 rfl).1; omega)) (show (0 : Nat) < 18446744073709551616 by decide)
  have Hpba := Lib.hid (fun w1 => text08 ba w1 (by have := (s1 rfl).2; omega))
  have zpba := oneS_le (txtP ba) (txt_short _ (by have := (s1 rfl).2; omega)) (show (0 : Nat) < 18446744073709551616 by decide)
  have Hpsg := Lib.hid (fun w1 => show Calls Try.prog 33 #[.int .u64 (sg : Int)] w1 (fun e w' => e = .returned (.string (oneS (numP sg))) ∧ Below w1.heap.size w1 w') from RNumber_any sg w1 o4)
  have zpsg := oneS_le (numP sg) (num_short _) o4
  have Hpon := Lib.hid (fun w1 => show Calls Try.prog 33 #[.int .u64 (on : Int)] w1 (fun e w' => e = .returned (.string (oneS (numP on))) ∧ Below w1.heap.size w1 w') from RNumber_any on w1 o5)
  have zpon := oneS_le (numP on) (num_short _) o5
  have Hpra := Lib.hid (fun w1 => text08 ra w1 (by have := s2 (by decide); omega))
  have zpra := oneS_le (txtP ra) (txt_short _ (by have := s2 (by decide); omega)) (show (0 : Nat) < 18446744073709551616 by decide)
  have Hppv := Lib.hid (fun w1 => show Calls Try.prog 33 #[.int .u64 (pv : Int)] w1 (fun e w' => e = .returned (.string (oneS (numP pv))) ∧ Below w1.heap.size w1 w') from RNumber_any pv w1 o6)
  have zppv := oneS_le (numP pv) (num_short _) o6
  have Hpnn := Lib.hid (fun w1 => show Calls Try.prog 33 #[.int .u64 (nn : Int)] w1 (fun e w' => e = .returned (.string (oneS (numP nn))) ∧ Below w1.heap.size w1 w') from RNumber_any nn w1 o7)
  have zpnn := oneS_le (numP nn) (num_short _) o7
  clear o1 o2 o3 o4 o5 o6 o7 s1 s2 hr
  generalize oneS (numP 0) = pk0 at *
  generalize oneS (numP a) = pa at *
  generalize oneS (numP b) = pb at *
  generalize oneS (numP c) = pc at *
  generalize oneS (txtP i) = pi at *
  generalize oneS (txtP ba) = pba at *
  generalize oneS (numP sg) = psg at *
  generalize oneS (numP on) = pon at *
  generalize oneS (txtP ra) = pra at *
  generalize oneS (numP pv) = ppv at *
  generalize oneS (numP nn) = pnn at *
  have g0 : ¬ (pk0.size + pa.size > 9223372036854775807) := by omega
  have g1 : ¬ (pk0.size + pa.size + pb.size > 9223372036854775807) := by omega
  have g2 : ¬ (pk0.size + pa.size + pb.size + pc.size > 9223372036854775807) := by omega
  have g3 : ¬ (pk0.size + pa.size + pb.size + pc.size + pi.size > 9223372036854775807) := by omega
  have g4 : ¬ (pk0.size + pa.size + pb.size + pc.size + pi.size + pba.size > 9223372036854775807) := by omega
  have g5 : ¬ (pk0.size + pa.size + pb.size + pc.size + pi.size + pba.size + psg.size > 9223372036854775807) := by omega
  have g6 : ¬ (pk0.size + pa.size + pb.size + pc.size + pi.size + pba.size + psg.size + pon.size > 9223372036854775807) := by omega
  have g7 : ¬ (pk0.size + pa.size + pb.size + pc.size + pi.size + pba.size + psg.size + pon.size + pra.size > 9223372036854775807) := by omega
  have g8 : ¬ (pk0.size + pa.size + pb.size + pc.size + pi.size + pba.size + psg.size + pon.size + pra.size + ppv.size > 9223372036854775807) := by omega
  have g9 : ¬ (pk0.size + pa.size + pb.size + pc.size + pi.size + pba.size + psg.size + pon.size + pra.size + ppv.size + pnn.size > 9223372036854775807) := by omega
  clear zpk0 zpa zpb zpc zpi zpba zpsg zpon zpra zppv zpnn
  have HO := (Own.start w).alloc' (.cells #[.int .i64 0, .int .u64 (a : Int), .int .u64 (b : Int), .int .u64 (c : Int), .string i, .string ba, .int .u64 (sg : Int), .int .u64 (on : Int), .string ra, .int .u64 (pv : Int), .int .u64 (nn : Int), .string bo, .slice A n cp] 25) rfl
  go_enter Try.func14, Try.ntmps14
  go_wp2_with fail
  refine kall [(0, true, some 4), (4, true, some 8), (8, true, some 12), (12, true, some 16), (1, true, some 5), (2, true, some 6), (3, true, some 7), (5, true, some 9), (6, true, some 10), (7, true, some 11), (9, true, some 13), (10, true, some 14), (11, true, some 15), (13, true, some 17), (14, true, some 18), (15, true, some 19), (16, true, some 3)] (by kernel_rfl) rfl (by kernel_rfl) rfl (fun _ _ _ _ _ h => h) ?_
  (refine sP (v := ?_) (a' := ?_) rfl rfl (by rfl) ?_ ?_ ?_; rotate_left 2; (· intro w'; go_simp; with_reducible rfl); (· simp only [Act.put, List.setIfInBounds_toArray, List.set_cons_zero, List.set_cons_succ, kw64, kw32]; rfl))
  (refine sP (v := ?_) (a' := ?_) rfl rfl (by rfl) ?_ ?_ ?_; rotate_left 2; (· intro w'; go_simp; with_reducible rfl); (· simp only [Act.put, List.setIfInBounds_toArray, List.set_cons_zero, List.set_cons_succ, kw64, kw32]; rfl))
  (refine sP (v := ?_) (a' := ?_) rfl rfl (by rfl) ?_ ?_ ?_; rotate_left 2; (· intro w'; go_simp; with_reducible rfl); (· simp only [Act.put, List.setIfInBounds_toArray, List.set_cons_zero, List.set_cons_succ, kw64, kw32]; rfl))
  (refine sP (v := ?_) (a' := ?_) rfl rfl (by rfl) ?_ ?_ ?_; rotate_left 2; (· intro w'; go_simp; with_reducible rfl); (· simp only [Act.put, List.setIfInBounds_toArray, List.set_cons_zero, List.set_cons_succ, kw64, kw32]; rfl))
  (refine sB (v := ?_) (a' := ?_) rfl rfl (by rfl) ?_ ?_ ?_; rotate_left 2; (· intro w1 hg; have h9 := (HO.up hg).cell 0 rfl; go_simp; with_reducible rfl); (· simp only [Act.put, List.setIfInBounds_toArray, List.set_cons_zero, List.set_cons_succ, kw64, kw32]; rfl))
  (refine sP (v := .int .u64 0) (a' := ?_) rfl rfl (by rfl) ?_ ?_ ?_; rotate_left 1; (· intro w'; go_simp; try rfl); (· simp only [Act.put, List.setIfInBounds_toArray, List.set_cons_zero, List.set_cons_succ, kw64, kw32]; rfl))
  (refine sD (v := ?_) (a' := ?_) Try.func33 rfl rfl (by rfl) rfl (by kernel_rfl) rfl (by rfl) ?_ ?_ ?_; rotate_left 2; (· intro w1 hg; exact Hpk0.out w1); (· simp only [Act.put, List.setIfInBounds_toArray, List.set_cons_zero, List.set_cons_succ, kw64, kw32]; rfl))
  (refine sB (v := ?_) (a' := ?_) rfl rfl (by rfl) ?_ ?_ ?_; rotate_left 2; (· intro w1 hg; have h9 := (HO.up hg).cell 0 rfl; go_simp; with_reducible rfl); (· simp only [Act.put, List.setIfInBounds_toArray, List.set_cons_zero, List.set_cons_succ, kw64, kw32]; rfl))
  (refine sD (v := ?_) (a' := ?_) Try.func33 rfl rfl (by rfl) rfl (by kernel_rfl) rfl (by rfl) ?_ ?_ ?_; rotate_left 2; (· intro w1 hg; exact Hpa.out w1); (· simp only [Act.put, List.setIfInBounds_toArray, List.set_cons_zero, List.set_cons_succ, kw64, kw32]; rfl))
  (refine sP (v := ?_) (a' := ?_) rfl rfl (by rfl) ?_ ?_ ?_; rotate_left 2; (· intro w'; go_simp; with_reducible rfl); (· simp only [Act.put, List.setIfInBounds_toArray, List.set_cons_zero, List.set_cons_succ, kw64, kw32]; rfl))
  (refine sB (v := ?_) (a' := ?_) rfl rfl (by rfl) ?_ ?_ ?_; rotate_left 2; (· intro w1 hg; have h9 := (HO.up hg).cell 0 rfl; go_simp; with_reducible rfl); (· simp only [Act.put, List.setIfInBounds_toArray, List.set_cons_zero, List.set_cons_succ, kw64, kw32]; rfl))
  (refine sD (v := ?_) (a' := ?_) Try.func33 rfl rfl (by rfl) rfl (by kernel_rfl) rfl (by rfl) ?_ ?_ ?_; rotate_left 2; (· intro w1 hg; exact Hpb.out w1); (· simp only [Act.put, List.setIfInBounds_toArray, List.set_cons_zero, List.set_cons_succ, kw64, kw32]; rfl))
  (refine sP (v := ?_) (a' := ?_) rfl rfl (by rfl) ?_ ?_ ?_; rotate_left 2; (· intro w'; go_simp; with_reducible rfl); (· simp only [Act.put, List.setIfInBounds_toArray, List.set_cons_zero, List.set_cons_succ, kw64, kw32]; rfl))
  (refine sB (v := ?_) (a' := ?_) rfl rfl (by rfl) ?_ ?_ ?_; rotate_left 2; (· intro w1 hg; have h9 := (HO.up hg).cell 0 rfl; go_simp; with_reducible rfl); (· simp only [Act.put, List.setIfInBounds_toArray, List.set_cons_zero, List.set_cons_succ, kw64, kw32]; rfl))
  (refine sD (v := ?_) (a' := ?_) Try.func33 rfl rfl (by rfl) rfl (by kernel_rfl) rfl (by rfl) ?_ ?_ ?_; rotate_left 2; (· intro w1 hg; exact Hpc.out w1); (· simp only [Act.put, List.setIfInBounds_toArray, List.set_cons_zero, List.set_cons_succ, kw64, kw32]; rfl))
  (refine sP (v := ?_) (a' := ?_) rfl rfl (by rfl) ?_ ?_ ?_; rotate_left 2; (· intro w'; go_simp; with_reducible rfl); (· simp only [Act.put, List.setIfInBounds_toArray, List.set_cons_zero, List.set_cons_succ, kw64, kw32]; rfl))
  (refine sP (v := ?_) (a' := ?_) rfl rfl (by rfl) ?_ ?_ ?_; rotate_left 2; (· intro w'; go_simp; with_reducible rfl); (· simp only [Act.put, List.setIfInBounds_toArray, List.set_cons_zero, List.set_cons_succ, kw64, kw32]; rfl))
  intro w1 hg
  replace HO := HO.up hg
  clear hg
  have c0 := HO.cell 0 rfl
  go_wp2_with fail
  clear c0
  refine kall [(0, true, some 23), (1, true, some 24), (5, true, some 28), (9, true, some 32), (13, true, some 36), (2, true, some 25), (3, true, some 26), (4, true, some 27), (6, true, some 29), (7, true, some 30), (8, true, some 31), (10, true, some 33), (11, true, some 34), (12, true, some 35), (14, true, some 37), (15, true, some 38), (16, true, some 39), (17, true, some 3)] (by kernel_rfl) rfl (by kernel_rfl) rfl (fun _ _ _ _ _ h => h) ?_
  (refine sP (v := ?_) (a' := ?_) rfl rfl (by rfl) ?_ ?_ ?_; rotate_left 2; (· intro w'; go_simp; with_reducible rfl); (· simp only [Act.put, List.setIfInBounds_toArray, List.set_cons_zero, List.set_cons_succ, kw64, kw32]; rfl))
  (refine sP (v := ?_) (a' := ?_) rfl rfl (by rfl) ?_ ?_ ?_; rotate_left 2; (· intro w'; go_simp; with_reducible rfl); (· simp only [Act.put, List.setIfInBounds_toArray, List.set_cons_zero, List.set_cons_succ, kw64, kw32]; rfl))
  (refine sP (v := ?_) (a' := ?_) rfl rfl (by rfl) ?_ ?_ ?_; rotate_left 2; (· intro w'; go_simp; with_reducible rfl); (· simp only [Act.put, List.setIfInBounds_toArray, List.set_cons_zero, List.set_cons_succ, kw64, kw32]; rfl))
  (refine sP (v := ?_) (a' := ?_) rfl rfl (by rfl) ?_ ?_ ?_; rotate_left 2; (· intro w'; go_simp; with_reducible rfl); (· simp only [Act.put, List.setIfInBounds_toArray, List.set_cons_zero, List.set_cons_succ, kw64, kw32]; rfl))
  (refine sP (v := ?_) (a' := ?_) rfl rfl (by rfl) ?_ ?_ ?_; rotate_left 2; (· intro w'; go_simp; with_reducible rfl); (· simp only [Act.put, List.setIfInBounds_toArray, List.set_cons_zero, List.set_cons_succ, kw64, kw32]; rfl))
  (refine sB (v := ?_) (a' := ?_) rfl rfl (by rfl) ?_ ?_ ?_; rotate_left 2; (· intro w1 hg; have h9 := (HO.up hg).cell 0 rfl; go_simp; with_reducible rfl); (· simp only [Act.put, List.setIfInBounds_toArray, List.set_cons_zero, List.set_cons_succ, kw64, kw32]; rfl))
  (refine sD (v := ?_) (a' := ?_) Try.func32 rfl rfl (by rfl) rfl (by kernel_rfl) rfl (by rfl) ?_ ?_ ?_; rotate_left 2; (· intro w1 hg; exact Hpi.out w1); (· simp only [Act.put, List.setIfInBounds_toArray, List.set_cons_zero, List.set_cons_succ, kw64, kw32]; rfl))
  (refine sP (v := ?_) (a' := ?_) rfl rfl (by rfl) ?_ ?_ ?_; rotate_left 2; (· intro w'; go_simp; with_reducible rfl); (· simp only [Act.put, List.setIfInBounds_toArray, List.set_cons_zero, List.set_cons_succ, kw64, kw32]; rfl))
  (refine sB (v := ?_) (a' := ?_) rfl rfl (by rfl) ?_ ?_ ?_; rotate_left 2; (· intro w1 hg; have h9 := (HO.up hg).cell 0 rfl; go_simp; with_reducible rfl); (· simp only [Act.put, List.setIfInBounds_toArray, List.set_cons_zero, List.set_cons_succ, kw64, kw32]; rfl))
  (refine sD (v := ?_) (a' := ?_) Try.func32 rfl rfl (by rfl) rfl (by kernel_rfl) rfl (by rfl) ?_ ?_ ?_; rotate_left 2; (· intro w1 hg; exact Hpba.out w1); (· simp only [Act.put, List.setIfInBounds_toArray, List.set_cons_zero, List.set_cons_succ, kw64, kw32]; rfl))
  (refine sP (v := ?_) (a' := ?_) rfl rfl (by rfl) ?_ ?_ ?_; rotate_left 2; (· intro w'; go_simp; with_reducible rfl); (· simp only [Act.put, List.setIfInBounds_toArray, List.set_cons_zero, List.set_cons_succ, kw64, kw32]; rfl))
  (refine sB (v := ?_) (a' := ?_) rfl rfl (by rfl) ?_ ?_ ?_; rotate_left 2; (· intro w1 hg; have h9 := (HO.up hg).cell 0 rfl; go_simp; with_reducible rfl); (· simp only [Act.put, List.setIfInBounds_toArray, List.set_cons_zero, List.set_cons_succ, kw64, kw32]; rfl))
  (refine sD (v := ?_) (a' := ?_) Try.func33 rfl rfl (by rfl) rfl (by kernel_rfl) rfl (by rfl) ?_ ?_ ?_; rotate_left 2; (· intro w1 hg; exact Hpsg.out w1); (· simp only [Act.put, List.setIfInBounds_toArray, List.set_cons_zero, List.set_cons_succ, kw64, kw32]; rfl))
  (refine sP (v := ?_) (a' := ?_) rfl rfl (by rfl) ?_ ?_ ?_; rotate_left 2; (· intro w'; go_simp; with_reducible rfl); (· simp only [Act.put, List.setIfInBounds_toArray, List.set_cons_zero, List.set_cons_succ, kw64, kw32]; rfl))
  (refine sB (v := ?_) (a' := ?_) rfl rfl (by rfl) ?_ ?_ ?_; rotate_left 2; (· intro w1 hg; have h9 := (HO.up hg).cell 0 rfl; go_simp; with_reducible rfl); (· simp only [Act.put, List.setIfInBounds_toArray, List.set_cons_zero, List.set_cons_succ, kw64, kw32]; rfl))
  (refine sD (v := ?_) (a' := ?_) Try.func33 rfl rfl (by rfl) rfl (by kernel_rfl) rfl (by rfl) ?_ ?_ ?_; rotate_left 2; (· intro w1 hg; exact Hpon.out w1); (· simp only [Act.put, List.setIfInBounds_toArray, List.set_cons_zero, List.set_cons_succ, kw64, kw32]; rfl))
  (refine sP (v := ?_) (a' := ?_) rfl rfl (by rfl) ?_ ?_ ?_; rotate_left 2; (· intro w'; go_simp; with_reducible rfl); (· simp only [Act.put, List.setIfInBounds_toArray, List.set_cons_zero, List.set_cons_succ, kw64, kw32]; rfl))
  (refine sP (v := ?_) (a' := ?_) rfl rfl (by rfl) ?_ ?_ ?_; rotate_left 2; (· intro w'; go_simp; with_reducible rfl); (· simp only [Act.put, List.setIfInBounds_toArray, List.set_cons_zero, List.set_cons_succ, kw64, kw32]; rfl))
  intro w1 hg
  replace HO := HO.up hg
  clear hg
  have c0 := HO.cell 0 rfl
  go_wp2_with fail
  clear c0
  refine kall [(0, true, some 43), (1, true, some 44), (5, true, some 48), (9, true, some 52), (2, true, some 45), (3, true, some 46), (4, true, some 47), (6, true, some 49), (7, true, some 50), (8, true, some 51), (10, true, some 53), (11, true, some 54), (12, true, some 55), (13, true, some 3)] (by kernel_rfl) rfl (by kernel_rfl) rfl (fun _ _ _ _ _ h => h) ?_
  (refine sP (v := ?_) (a' := ?_) rfl rfl (by rfl) ?_ ?_ ?_; rotate_left 2; (· intro w'; go_simp; with_reducible rfl); (· simp only [Act.put, List.setIfInBounds_toArray, List.set_cons_zero, List.set_cons_succ, kw64, kw32]; rfl))
  (refine sP (v := ?_) (a' := ?_) rfl rfl (by rfl) ?_ ?_ ?_; rotate_left 2; (· intro w'; go_simp; with_reducible rfl); (· simp only [Act.put, List.setIfInBounds_toArray, List.set_cons_zero, List.set_cons_succ, kw64, kw32]; rfl))
  (refine sP (v := ?_) (a' := ?_) rfl rfl (by rfl) ?_ ?_ ?_; rotate_left 2; (· intro w'; go_simp; with_reducible rfl); (· simp only [Act.put, List.setIfInBounds_toArray, List.set_cons_zero, List.set_cons_succ, kw64, kw32]; rfl))
  (refine sP (v := ?_) (a' := ?_) rfl rfl (by rfl) ?_ ?_ ?_; rotate_left 2; (· intro w'; go_simp; with_reducible rfl); (· simp only [Act.put, List.setIfInBounds_toArray, List.set_cons_zero, List.set_cons_succ, kw64, kw32]; rfl))
  (refine sB (v := ?_) (a' := ?_) rfl rfl (by rfl) ?_ ?_ ?_; rotate_left 2; (· intro w1 hg; have h9 := (HO.up hg).cell 0 rfl; go_simp; with_reducible rfl); (· simp only [Act.put, List.setIfInBounds_toArray, List.set_cons_zero, List.set_cons_succ, kw64, kw32]; rfl))
  (refine sD (v := ?_) (a' := ?_) Try.func32 rfl rfl (by rfl) rfl (by kernel_rfl) rfl (by rfl) ?_ ?_ ?_; rotate_left 2; (· intro w1 hg; exact Hpra.out w1); (· simp only [Act.put, List.setIfInBounds_toArray, List.set_cons_zero, List.set_cons_succ, kw64, kw32]; rfl))
  (refine sP (v := ?_) (a' := ?_) rfl rfl (by rfl) ?_ ?_ ?_; rotate_left 2; (· intro w'; go_simp; with_reducible rfl); (· simp only [Act.put, List.setIfInBounds_toArray, List.set_cons_zero, List.set_cons_succ, kw64, kw32]; rfl))
  (refine sB (v := ?_) (a' := ?_) rfl rfl (by rfl) ?_ ?_ ?_; rotate_left 2; (· intro w1 hg; have h9 := (HO.up hg).cell 0 rfl; go_simp; with_reducible rfl); (· simp only [Act.put, List.setIfInBounds_toArray, List.set_cons_zero, List.set_cons_succ, kw64, kw32]; rfl))
  (refine sD (v := ?_) (a' := ?_) Try.func33 rfl rfl (by rfl) rfl (by kernel_rfl) rfl (by rfl) ?_ ?_ ?_; rotate_left 2; (· intro w1 hg; exact Hppv.out w1); (· simp only [Act.put, List.setIfInBounds_toArray, List.set_cons_zero, List.set_cons_succ, kw64, kw32]; rfl))
  (refine sP (v := ?_) (a' := ?_) rfl rfl (by rfl) ?_ ?_ ?_; rotate_left 2; (· intro w'; go_simp; with_reducible rfl); (· simp only [Act.put, List.setIfInBounds_toArray, List.set_cons_zero, List.set_cons_succ, kw64, kw32]; rfl))
  (refine sB (v := ?_) (a' := ?_) rfl rfl (by rfl) ?_ ?_ ?_; rotate_left 2; (· intro w1 hg; have h9 := (HO.up hg).cell 0 rfl; go_simp; with_reducible rfl); (· simp only [Act.put, List.setIfInBounds_toArray, List.set_cons_zero, List.set_cons_succ, kw64, kw32]; rfl))
  (refine sD (v := ?_) (a' := ?_) Try.func33 rfl rfl (by rfl) rfl (by kernel_rfl) rfl (by rfl) ?_ ?_ ?_; rotate_left 2; (· intro w1 hg; exact Hpnn.out w1); (· simp only [Act.put, List.setIfInBounds_toArray, List.set_cons_zero, List.set_cons_succ, kw64, kw32]; rfl))
  (refine sP (v := ?_) (a' := ?_) rfl rfl (by rfl) ?_ ?_ ?_; rotate_left 2; (· intro w'; go_simp; with_reducible rfl); (· simp only [Act.put, List.setIfInBounds_toArray, List.set_cons_zero, List.set_cons_succ, kw64, kw32]; rfl))
  (refine sP (v := ?_) (a' := ?_) rfl rfl (by rfl) ?_ ?_ ?_; rotate_left 2; (· intro w'; go_simp; with_reducible rfl); (· simp only [Act.put, List.setIfInBounds_toArray, List.set_cons_zero, List.set_cons_succ, kw64, kw32]; rfl))
  intro w1 hg
  replace HO := HO.up hg
  clear hg
  go_wp2
  go_ret
  exact ⟨rfl, HO.below⟩
theorem RHead_any (f : FrD) (A : Option Addr) (n cp : Nat) (w : World) (ho : okF f) (hr : rightF f = true) :
    Calls Try.prog 14 #[frV f (.slice A n cp)] w fun e w' => e = .returned (.string (pk (headP f))) ∧ Below w.heap.size w w' := by
  obtain ⟨h1, h2, _⟩ := right_parts f hr
  obtain ⟨kd, a, b, c, i, ba, sg, on, ra, pv, nn, bo, ks⟩ := f
  dsimp only at *
  have hk : kd = 0 ∨ kd = 1 ∨ kd = 2 := by omega
  rcases hk with rfl | rfl | rfl
  · exact RHead_0 a b c i ba sg on ra pv nn bo ks A n cp w ho hr
  · exact RHead_1 a b c i ba sg on ra pv nn bo ks A n cp w ho hr
  · exact RHead_2 a b c i ba sg on ra pv nn bo ks A n cp w ho hr
end Go.Proofs.Ytfghjahmnjghgaa

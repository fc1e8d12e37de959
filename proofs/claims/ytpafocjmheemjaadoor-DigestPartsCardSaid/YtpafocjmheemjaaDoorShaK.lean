import Derived.Test.YtpafocjmheemjaaDoorShaJ
set_option linter.unusedSimpArgs false
namespace Go.Proofs.YtpafocjmheemjaaDoor
open Go.RowKit Go.Proofs.YtpafocjmheemjaaDoorW.PrintWords
/-- a number brought to 0 .. n -/
theorem modQ (i : Int) (L : Nat) : ∃ t : Int, Int.tmod i ((L : Int) + 1) = t ∧ -(L : Int) ≤ t ∧ t ≤ L ∧ ∃ q : Nat, q ≤ L ∧ (t + (L : Int) + 1) % ((L : Int) + 1) = (q : Int) ∧ Int.tmod (t + (L : Int) + 1) ((L : Int) + 1) = (q : Int) := by
  have h1 := Int.tmod_lt_of_pos i (show (0 : Int) < (L : Int) + 1 by omega)
  have h2 := Int.tmod_lt_of_pos (-i) (show (0 : Int) < (L : Int) + 1 by omega)
  rw [Int.neg_tmod] at h2
  refine ⟨_, rfl, by omega, by omega, ((Int.tmod i ((L : Int) + 1) + (L : Int) + 1) % ((L : Int) + 1)).toNat, ?_, ?_, ?_⟩
  · have := Int.emod_lt_of_pos (Int.tmod i ((L : Int) + 1) + (L : Int) + 1) (show (0 : Int) < (L : Int) + 1 by omega)
    omega
  · have := Int.emod_nonneg (Int.tmod i ((L : Int) + 1) + (L : Int) + 1) (show (L : Int) + 1 ≠ 0 by omega)
    omega
  · rw [Int.tmod_eq_emod_of_nonneg (by omega)]
    have := Int.emod_nonneg (Int.tmod i ((L : Int) + 1) + (L : Int) + 1) (show (L : Int) + 1 ≠ 0 by omega)
    omega
theorem row8_ne {w : World} {g g' : Nat} {f : Nat → W32} {A : Option Addr} {n c : Nat} (h : Row8 w (some ⟨g, 0, none⟩) f) (hc : w.cell? ⟨g', 0, none⟩ = some (.slice A n c)) : g ≠ g' := fun he => by
  subst he
  rw [row8_at h 0 (by decide)] at hc
  cases hc
theorem two_parts (s : ByteArray) (q : Nat) : s.extract 0 q ++ s.extract q s.size = s := by
  apply ba_ext
  rw [app_list, ext_list, ext_all, List.drop_zero, Nat.sub_zero, List.take_append_drop]
theorem new_parts' (s : ByteArray) (q : Nat) : sumF (wordsF (wordsF ivF (⟨#[]⟩ ++ s.extract 0 q)) (leftF (⟨#[]⟩ ++ s.extract 0 q) ++ s.extract q s.size)) (leftF (leftF (⟨#[]⟩ ++ s.extract 0 q) ++ s.extract q s.size)) (addM (addM 0 (s.extract 0 q).size) (s.extract q s.size).size) = shaF s := by
  rw [nil_app, words_two, left_two, addM_two, two_parts s q, ← ByteArray.size_append, two_parts s q]
  rfl
theorem size1 (s : ByteArray) (q : Nat) (hq : q ≤ s.size) : (s.extract 0 q).size = q := by rw [ByteArray.size_extract]; omega
theorem size2 (s : ByteArray) (q : Nat) : (s.extract q s.size).size = s.size - q := by rw [ByteArray.size_extract]; omega
theorem new_parts (s : ByteArray) (q : Nat) (hq : q ≤ s.size) : sumF (wordsF (wordsF ivF (⟨#[]⟩ ++ s.extract 0 q)) (leftF (⟨#[]⟩ ++ s.extract 0 q) ++ s.extract q s.size)) (leftF (leftF (⟨#[]⟩ ++ s.extract 0 q) ++ s.extract q s.size)) (addM (addM 0 q) (s.size - q)) = shaF s := by
  have := new_parts' s q
  rw [size1 s q hq, size2 s q] at this
  exact this
attribute [local irreducible] Calls mixF
set_option maxHeartbeats 8000000 in
set_option maxRecDepth 100000 in
theorem DigestNew_walk (s0 : ByteArray) (i : Int) (W : World) (hK : KeysAt W) :
    Calls Tryd.prog 5 #[.string s0, .int .i64 i] W fun e W' => e = .returned (.bool true) ∧ Below W.heap.size W W' := by
  have h300 := headB_size s0 300
  go_enter Tryd.func5, Tryd.ntmps5
  go_wp2_with fail
  refine (cut03 s0 _).mono ?_
  rintro e w1 ⟨rfl, hb⟩
  have HO := (Own.start W).up hb
  clear hb
  generalize headB s0 300 = s at *
  have hs : s.size ≤ 300 := by omega
  clear h300
  obtain ⟨t, ht, ht1, ht2, q, hq, hq1, hq2⟩ := modQ i s.size
  have hq0 : (0 : Int) ≤ (q : Int) := by omega
  have hqs : (q : Int) ≤ (s.size : Int) := by omega
  have hl1 : (0 : Int) < (s.size : Int) + 1 := by omega
  have hl2 : (s.size : Int) ≤ 300 := by omega
  have HK := Lib.hid (fun w1 (hg : Gr W w1) => hK.up hg)
  have HN := Lib.hid (new_parts s q hq)
  have hz1 : (s.extract 0 q).size ≤ 300 := by rw [ByteArray.size_extract]; omega
  have hz2 : (s.extract q s.size).size ≤ 300 := by rw [ByteArray.size_extract]; omega
  have HZ1 := Lib.hid (size1 s q hq)
  have HZ2 := Lib.hid (size2 s q)
  have hr1 := right_behind (s := s.extract 0 q) right_nil
  have hr2 := right_behind (s := s.extract q s.size) hr1
  rw [size1 s q hq] at hr1 hr2
  rw [size2 s q] at hr2
  have HR1 := Lib.hid hr1
  have HR2 := Lib.hid hr2
  clear hK hr1 hr2
  go_wp2_with fail
  have HLT := HO.allLt
  have HB0 := HO.below.size
  refine dstart (fun w => w.heap.size) [(8, 5, 25, #[.slice none 0 0, .string ⟨#[]⟩, .int .u64 0])] [7] (n := 11) (ds := [9]) #[false, false, false, false, false, false, false, false, false, false, false] (by kernel_rfl) (by intro d hd; simp only [List.mem_cons, List.not_mem_nil, or_false] at hd; rcases hd with rfl <;> (intro o ho ev w; cases ho; go_simp; rfl)) (by kernel_rfl) rfl rfl (Nat.le_refl _) (fun _ _ _ _ _ h => h) (fun HD HBS => ?_)
  refine bseq (m := 8) (.inr HD) [(1, true, some 28), (2, true, some 29), (3, true, some 30)] #[false, true, true, true, false, false, false, false, false, false, false] HBS (by kernel_rfl) rfl (fun _ _ _ _ _ h => h) ?_
  repeat (first
    | (refine sP (v := ?_) (a' := ?_) rfl rfl (by rfl) ?_ ?_ ?_; rotate_left 2; (· intro w'; go_simp; with_reducible rfl); (· simp only [Act.put, List.setIfInBounds_toArray, List.set_cons_zero, List.set_cons_succ, kw64, kw32]; rfl))
    | (refine sB (v := ?_) (a' := ?_) rfl rfl (by rfl) ?_ ?_ ?_; rotate_left 2; (· intro w1 hg; skip; go_simp; with_reducible rfl); (· simp only [Act.put, List.setIfInBounds_toArray, List.set_cons_zero, List.set_cons_succ, kw64, kw32]; rfl)))
  refine bone (i := 0) (N := (some 27)) #[true, true, true, true, false, false, false, false, false, false, false] rfl rfl (by kernel_rfl) HBS (fun w1 hg K hK => ?_)
  rw [if_pos (by rfl)]
  replace HO := HO.up hg
  refine wp_call Tryd.func26 rfl (by kernel_rfl) rfl (by rfl) ((New_any _).mono ?_)
  rintro e w2 ⟨⟨g1, hg1, rfl, hR1⟩, hb⟩
  refine ⟨_, rfl, hK _ _ (not_ds (by decide) hb) (fun HBS => ?_)⟩
  replace HO := HO.up hb
  clear hg K hK hb
  simp only [Act.put, List.setIfInBounds_toArray, List.set_cons_zero, List.set_cons_succ]
  refine bone (i := 4) (N := (some 31)) #[true, true, true, true, true, false, false, false, false, false, false] rfl rfl (by kernel_rfl) HBS (fun w1 hg K hK => ?_)
  rw [if_pos (by rfl)]
  replace HO := HO.up hg
  refine wp_call Tryd.func17 rfl (by kernel_rfl) rfl (by rfl) ((Write_yes _ 8 ivF ⟨#[]⟩ (s.extract 0 q) 0 _ (hR1.up hg) (HK.out _ HO.below) right_nil (by omega)).mono ?_)
  rintro e w2 ⟨⟨g2, hg2, rfl, hR2⟩, hb⟩
  rw [HZ1.out]
  unfold hashV
  generalize leftF (⟨#[]⟩ ++ s.extract 0 q) = La at *
  generalize wordsF ivF (⟨#[]⟩ ++ s.extract 0 q) = Fa at *
  generalize addM 0 q = Ma at *
  refine ⟨_, rfl, hK _ _ (not_ds (by decide) hb) (fun HBS => ?_)⟩
  replace HO := HO.up hb
  simp only [Act.put, List.setIfInBounds_toArray, List.set_cons_zero, List.set_cons_succ]
  refine bseq (m := 3) (.inr HD) [(5, true, some 26), (6, true, some 32), (7, true, some 33)] #[true, true, true, true, true, true, true, true, false, false, false] HBS (by kernel_rfl) rfl (fun _ _ _ _ _ h => h) ?_
  repeat (first
    | (refine sP (v := ?_) (a' := ?_) rfl rfl (by rfl) ?_ ?_ ?_; rotate_left 2; (· intro w'; go_simp; with_reducible rfl); (· simp only [Act.put, List.setIfInBounds_toArray, List.set_cons_zero, List.set_cons_succ, kw64, kw32]; rfl))
    | (refine sL (v := ?_) (a' := ?_) rfl rfl (by rfl) ?_ ?_ ?_; rotate_left 2; (· intro w1 hg; skip; go_simp; with_reducible rfl); (· simp only [Act.put, List.setIfInBounds_toArray, List.set_cons_zero, List.set_cons_succ, kw64, kw32]; rfl)))
  refine balloc HD (8, 5, 25, #[.slice none 0 0, .string ⟨#[]⟩, .int .u64 0]) (by simp) #[true, true, true, true, true, true, true, true, true, false, false] (by kernel_rfl) HBS (fun w1 gD hg hgD hbD HBS => ?_)
  have hlt := HLT
  replace HO : Own W [(gD, .cells #[.slice none 0 0, .string ⟨#[]⟩, .int .u64 0] 25 (0, 0))] _ := (HO.up hg).takeB hlt hgD HB0 hbD
  have hne := row8_ne (hR2.up hg) (HO.cell 0 rfl 0)
  simp only [ptrV]
  replace hR2 := hR2.up hg
  simp only [Act.put, List.setIfInBounds_toArray, List.set_cons_zero, List.set_cons_succ]
  clear hg hbD hlt
  refine bone (i := 9) (N := none) #[true, true, true, true, true, true, true, true, true, true, false] rfl rfl (by kernel_rfl) HBS (fun w1 hg K hK => ?_)
  rw [if_pos (by rfl)]
  replace HO := HO.up hg
  have c1 := HO.cell 0 rfl
  have f1 := HO.frozen 0 rfl
  replace hR2 := hR2.up hg
  go_simp
  refine hK _ _ (in_ds (by decide) (((bel_set (by omega)).trans (bel_set (by omega))).trans (bel_set (by omega)))) (fun HBS => ?_)
  replace HO := HO.set' 0 rfl 0 (.slice (some ⟨g2, 0, none⟩) 8 8) (L' := [(gD, .cells #[.slice (some ⟨g2, 0, none⟩) 8 8, .string ⟨#[]⟩, .int .u64 0] 25 (0, 0))]) rfl
  replace HO := HO.set' 0 rfl 1 (.string La) (L' := [(gD, .cells #[.slice (some ⟨g2, 0, none⟩) 8 8, .string La, .int .u64 0] 25 (0, 0))]) rfl
  replace HO := HO.set' 0 rfl 2 (.int .u64 (Ma : Nat)) (L' := [(gD, .cells #[.slice (some ⟨g2, 0, none⟩) 8 8, .string La, .int .u64 (Ma : Nat)] 25 (0, 0))]) rfl
  replace hR2 := ((hR2.set (j := 0) (v := (.slice (some ⟨g2, 0, none⟩) 8 8)) hne).set (j := 1) (v := (.string La)) hne).set (j := 2) (v := (.int .u64 (Ma : Nat))) hne
  clear c1 f1 hg K hK
  revert HO HBS hR2
  generalize World.setCell (World.setCell _ _ _) _ _ = wb
  intro HBS HO hR2
  refine bseq (m := 0) (.inr HD) [(10, true, some 6)] #[true, true, true, true, true, true, true, true, true, true, true] HBS (by kernel_rfl) rfl (fun _ _ _ _ _ h => h) ?_
  repeat (first
    | (refine sP (v := ?_) (a' := ?_) rfl rfl (by rfl) ?_ ?_ ?_; rotate_left 2; (· intro w'; go_simp; with_reducible rfl); (· simp only [Act.put, List.setIfInBounds_toArray, List.set_cons_zero, List.set_cons_succ, kw64, kw32]; rfl))
    | (refine sL (v := ?_) (a' := ?_) rfl rfl (by rfl) ?_ ?_ ?_; rotate_left 2; (· intro w1 hg; skip; go_simp; with_reducible rfl); (· simp only [Act.put, List.setIfInBounds_toArray, List.set_cons_zero, List.set_cons_succ, kw64, kw32]; rfl)))
  refine bdone (by kernel_rfl) (fun w1 hg => ?_)
  replace HO := HO.up hg
  replace hR2 := hR2.up hg
  clear hg HLT HB0 hgD hne HBS
  generalize gD = gA at *
  clear hR1
  go_wp2_with fail
  have HLT := HO.allLt
  have HB0 := HO.below.size
  refine dstart (fun w => w.heap.size) [(8, 7, 25, #[.slice none 0 0, .string ⟨#[]⟩, .int .u64 0])] [7] (n := 11) (ds := [9]) #[false, false, false, false, false, false, false, false, false, false, false] (by kernel_rfl) (by intro d hd; simp only [List.mem_cons, List.not_mem_nil, or_false] at hd; rcases hd with rfl <;> (intro o ho ev w; cases ho; go_simp; rfl)) (by kernel_rfl) rfl rfl (Nat.le_refl _) (fun _ _ _ _ _ h => h) (fun HD HBS => ?_)
  refine bseq (m := 7) (.inr HD) [(1, true, some 36), (2, true, some 37), (3, true, some 38), (0, true, some 35)] #[true, true, true, true, false, false, false, false, false, false, false] HBS (by kernel_rfl) rfl (fun _ _ _ _ _ h => h) ?_
  repeat (first
    | (refine sP (v := ?_) (a' := ?_) rfl rfl (by rfl) ?_ ?_ ?_; rotate_left 2; (· intro w'; go_simp; with_reducible rfl); (· simp only [Act.put, List.setIfInBounds_toArray, List.set_cons_zero, List.set_cons_succ, kw64, kw32]; rfl))
    | (refine sB (v := ?_) (a' := ?_) rfl rfl (by rfl) ?_ ?_ ?_; rotate_left 2; (· intro w1 hg; have c0 := (HO.up hg).cell 0 rfl; go_simp; with_reducible rfl); (· simp only [Act.put, List.setIfInBounds_toArray, List.set_cons_zero, List.set_cons_succ, kw64, kw32]; rfl)))
  refine bone (i := 4) (N := (some 39)) #[true, true, true, true, true, false, false, false, false, false, false] rfl rfl (by kernel_rfl) HBS (fun w1 hg K hK => ?_)
  rw [if_pos (by rfl)]
  replace HO := HO.up hg
  refine wp_call Tryd.func17 rfl (by kernel_rfl) rfl (by rfl) ((Write_yes _ 8 Fa La (s.extract q s.size) Ma _ (hR2.up hg) (HK.out _ HO.below) HR1.out (by omega)).mono ?_)
  rintro e w2 ⟨⟨g3, hg3, rfl, hR3⟩, hb⟩
  rw [HZ2.out]
  unfold hashV
  generalize leftF (La ++ s.extract q s.size) = Lb at *
  generalize wordsF Fa (La ++ s.extract q s.size) = Fb at *
  generalize addM Ma (s.size - q) = Mb at *
  refine ⟨_, rfl, hK _ _ (not_ds (by decide) hb) (fun HBS => ?_)⟩
  replace HO := HO.up hb
  simp only [Act.put, List.setIfInBounds_toArray, List.set_cons_zero, List.set_cons_succ]
  refine bseq (m := 3) (.inr HD) [(5, true, some 34), (6, true, some 40), (7, true, some 41)] #[true, true, true, true, true, true, true, true, false, false, false] HBS (by kernel_rfl) rfl (fun _ _ _ _ _ h => h) ?_
  repeat (first
    | (refine sP (v := ?_) (a' := ?_) rfl rfl (by rfl) ?_ ?_ ?_; rotate_left 2; (· intro w'; go_simp; with_reducible rfl); (· simp only [Act.put, List.setIfInBounds_toArray, List.set_cons_zero, List.set_cons_succ, kw64, kw32]; rfl))
    | (refine sL (v := ?_) (a' := ?_) rfl rfl (by rfl) ?_ ?_ ?_; rotate_left 2; (· intro w1 hg; have c0 := (HO.up hg).cell 0 rfl; go_simp; with_reducible rfl); (· simp only [Act.put, List.setIfInBounds_toArray, List.set_cons_zero, List.set_cons_succ, kw64, kw32]; rfl)))
  refine balloc HD (8, 7, 25, #[.slice none 0 0, .string ⟨#[]⟩, .int .u64 0]) (by simp) #[true, true, true, true, true, true, true, true, true, false, false] (by kernel_rfl) HBS (fun w1 gD hg hgD hbD HBS => ?_)
  have hlt := HLT
  replace HO : Own W [(gD, .cells #[.slice none 0 0, .string ⟨#[]⟩, .int .u64 0] 25 (0, 0)), (gA, .cells #[.slice (some ⟨g2, 0, none⟩) 8 8, .string La, .int .u64 (Ma : Nat)] 25 (0, 0))] _ := (HO.up hg).takeB hlt hgD HB0 hbD
  have hne := row8_ne (hR3.up hg) (HO.cell 0 rfl 0)
  simp only [ptrV]
  replace hR3 := hR3.up hg
  simp only [Act.put, List.setIfInBounds_toArray, List.set_cons_zero, List.set_cons_succ]
  clear hg hbD hlt
  refine bone (i := 9) (N := none) #[true, true, true, true, true, true, true, true, true, true, false] rfl rfl (by kernel_rfl) HBS (fun w1 hg K hK => ?_)
  rw [if_pos (by rfl)]
  replace HO := HO.up hg
  have c1 := HO.cell 0 rfl
  have f1 := HO.frozen 0 rfl
  replace hR3 := hR3.up hg
  go_simp
  refine hK _ _ (in_ds (by decide) (((bel_set (by omega)).trans (bel_set (by omega))).trans (bel_set (by omega)))) (fun HBS => ?_)
  replace HO := HO.set' 0 rfl 0 (.slice (some ⟨g3, 0, none⟩) 8 8) (L' := [(gD, .cells #[.slice (some ⟨g3, 0, none⟩) 8 8, .string ⟨#[]⟩, .int .u64 0] 25 (0, 0)), (gA, .cells #[.slice (some ⟨g2, 0, none⟩) 8 8, .string La, .int .u64 (Ma : Nat)] 25 (0, 0))]) rfl
  replace HO := HO.set' 0 rfl 1 (.string Lb) (L' := [(gD, .cells #[.slice (some ⟨g3, 0, none⟩) 8 8, .string Lb, .int .u64 0] 25 (0, 0)), (gA, .cells #[.slice (some ⟨g2, 0, none⟩) 8 8, .string La, .int .u64 (Ma : Nat)] 25 (0, 0))]) rfl
  replace HO := HO.set' 0 rfl 2 (.int .u64 (Mb : Nat)) (L' := [(gD, .cells #[.slice (some ⟨g3, 0, none⟩) 8 8, .string Lb, .int .u64 (Mb : Nat)] 25 (0, 0)), (gA, .cells #[.slice (some ⟨g2, 0, none⟩) 8 8, .string La, .int .u64 (Ma : Nat)] 25 (0, 0))]) rfl
  replace hR3 := ((hR3.set (j := 0) (v := (.slice (some ⟨g3, 0, none⟩) 8 8)) hne).set (j := 1) (v := (.string Lb)) hne).set (j := 2) (v := (.int .u64 (Mb : Nat))) hne
  clear c1 f1 hg K hK
  revert HO HBS hR3
  generalize World.setCell (World.setCell _ _ _) _ _ = wb
  intro HBS HO hR3
  refine bseq (m := 0) (.inr HD) [(10, true, some 8)] #[true, true, true, true, true, true, true, true, true, true, true] HBS (by kernel_rfl) rfl (fun _ _ _ _ _ h => h) ?_
  repeat (first
    | (refine sP (v := ?_) (a' := ?_) rfl rfl (by rfl) ?_ ?_ ?_; rotate_left 2; (· intro w'; go_simp; with_reducible rfl); (· simp only [Act.put, List.setIfInBounds_toArray, List.set_cons_zero, List.set_cons_succ, kw64, kw32]; rfl))
    | (refine sL (v := ?_) (a' := ?_) rfl rfl (by rfl) ?_ ?_ ?_; rotate_left 2; (· intro w1 hg; have c0 := (HO.up hg).cell 0 rfl; go_simp; with_reducible rfl); (· simp only [Act.put, List.setIfInBounds_toArray, List.set_cons_zero, List.set_cons_succ, kw64, kw32]; rfl)))
  refine bdone (by kernel_rfl) (fun w1 hg => ?_)
  replace HO := HO.up hg
  replace hR3 := hR3.up hg
  clear hg HLT HB0 hgD hne HBS
  generalize gD = gB at *
  clear hR2 HR1
  have c0 := HO.cell 0 rfl
  go_wp2_with fail
  clear c0
  refine (Sum_yes _ 8 Fb Lb Mb _ hR3 (HK.out _ HO.below) HR2.out).mono ?_
  rintro e w2 ⟨hS, hb⟩
  unfold SumR at hS
  rw [HN.out] at hS
  subst hS
  replace HO := HO.up hb
  clear hb hR3 HR2 HN
  go_wp2_with fail
  refine (alive03 _ (HK.out _ HO.below)).mono ?_
  rintro e w2 ⟨rfl, hb⟩
  replace HO := HO.up hb
  clear hb
  go_wp2_with fail
  refine (Of_any s _ (HK.out _ HO.below) (by omega)).mono ?_
  rintro e w2 ⟨rfl, hb⟩
  replace HO := HO.up hb
  clear hb
  generalize shaF s = x at *
  have hx : (x.toList == x.toList) = true := by simp
  go_wp2
  go_ret
  exact ⟨rfl, HO.below⟩
end Go.Proofs.YtpafocjmheemjaaDoor

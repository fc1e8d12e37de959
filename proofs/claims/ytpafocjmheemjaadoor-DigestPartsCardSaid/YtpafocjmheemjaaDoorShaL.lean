import Derived.Test.YtpafocjmheemjaaDoorShaK
set_option linter.unusedSimpArgs false
namespace Go.Proofs.YtpafocjmheemjaaDoor
open Go.RowKit Go.Proofs.YtpafocjmheemjaaDoorW.PrintWords
theorem modQ2 (j : Int) (L q : Nat) (hq : q ≤ L) : ∃ t : Int, Int.tmod j ((L : Int) - (q : Int) + 1) = t ∧ -((L : Int) - q) ≤ t ∧ t ≤ (L : Int) - q ∧ ∃ k : Nat, q ≤ k ∧ k ≤ L ∧ (t + (L : Int) - (q : Int) + 1) % ((L : Int) - (q : Int) + 1) = (k : Int) - (q : Int) ∧ Int.tmod (t + (L : Int) - (q : Int) + 1) ((L : Int) - (q : Int) + 1) = (k : Int) - (q : Int) := by
  obtain ⟨t, h1, h2, h3, r, h4, h5, h6⟩ := modQ j (L - q)
  have e : ((L - q : Nat) : Int) = (L : Int) - q := by omega
  rw [e] at h1 h2 h3 h5 h6
  rw [show t + ((L : Int) - q) + 1 = t + (L : Int) - q + 1 by omega] at h5 h6
  exact ⟨t, h1, by omega, by omega, q + r, by omega, by omega, by omega, by omega⟩
theorem app_assoc (a b c : ByteArray) : a ++ b ++ c = a ++ (b ++ c) := by apply ba_ext; simp only [app_list, List.append_assoc]
theorem three_parts (s : ByteArray) (q k : Nat) (h1 : q ≤ k) : s.extract 0 q ++ s.extract q k ++ s.extract k s.size = s := by
  have e : s.extract 0 q ++ s.extract q k = s.extract 0 k := by
    apply ba_ext
    simp only [app_list, ext_list, List.drop_zero, Nat.sub_zero]
    rw [show k = q + (k - q) by omega, List.take_add]
    simp
  rw [e, two_parts]
theorem size3 (s : ByteArray) (q k : Nat) (h1 : q ≤ k) (h2 : k ≤ s.size) : (s.extract q k).size = k - q := by rw [ByteArray.size_extract]; omega
theorem words_three (f : Nat → W32) (r a b c : ByteArray) : wordsF (wordsF (wordsF f (r ++ a)) (leftF (r ++ a) ++ b)) (leftF (leftF (r ++ a) ++ b) ++ c) = wordsF f (r ++ (a ++ b ++ c)) := by
  rw [words_two, app_assoc (leftF (r ++ a)), words_two, app_assoc r, ← app_assoc a]
theorem left_three (r a b c : ByteArray) : leftF (leftF (leftF (r ++ a) ++ b) ++ c) = leftF (r ++ (a ++ b ++ c)) := by
  rw [left_two, app_assoc (leftF (r ++ a)), left_two, app_assoc r, ← app_assoc a]
theorem addM_three (m a b c : Nat) : addM (addM (addM m a) b) c = addM m (a + b + c) := by rw [addM_two, addM_two]; congr 1; omega
theorem RowN.to8 {w : World} {A : Option Addr} {f : Nat → W32} (h : RowN w A 8 f) : Row8 w A f := h (by decide)
theorem RowN.less {w : World} {A : Option Addr} {n k : Nat} {f : Nat → W32} (h : RowN w A n f) (hk : k ≤ n) : RowN w A k f := fun h0 => by
  obtain ⟨ad, e, g⟩ := h (by omega)
  exact ⟨ad, e, fun j hj => g j (by omega)⟩
theorem sumF_size (f : Nat → W32) (r : ByteArray) (m : Nat) : (sumF f r m).size = 32 := by unfold sumF textF; rw [strOfNums_size, outI_len]
attribute [local irreducible] Calls mixF
set_option maxHeartbeats 8000000 in
set_option maxRecDepth 100000 in
theorem DigestParts_walk (A : Option Addr) (n c : Nat) (rest : ByteArray) (m : Nat) (f : Nat → W32) (s0 : ByteArray) (i j : Int) (W : World) (hn : n ≤ c) (hR : RowN W A n f) (hK : KeysAt W) :
    Calls Tryd.prog 4 #[hashV A n c rest m, .string s0, .int .i64 i, .int .i64 j] W fun e W' => e = .returned (.bool true) ∧ Below W.heap.size W W' := by
  have h300 := headB_size s0 300
  have HK := Lib.hid (fun w1 (hg : Gr W w1) => hK.up hg)
  have HRN := Lib.hid (fun w1 (hg : Gr W w1) => (hR.less (Nat.min_le_left n 9)).up hg)
  have HF := Lib.hid (few03 A n c rest m · hn)
  clear hK hR
  unfold hashV at *
  have HO := ((Own.start W).alloc' (.cells #[.slice A n c, .string rest, .int .u64 (m : Int)] 25) rfl)
  go_enter Tryd.func4, Tryd.ntmps4
  have c0 := HO.cell 0 rfl
  go_wp2_with fail
  clear c0
  refine (HF.out _).mono ?_
  rintro e w1 ⟨rfl, hb⟩
  replace HO := HO.up hb
  clear hb HF
  go_wp2_with fail
  refine (cut03 s0 _).mono ?_
  rintro e w1 ⟨rfl, hb⟩
  replace HO := HO.up hb
  clear hb
  have c0 := HO.cell 0 rfl
  have f0 := HO.frozen 0 rfl
  generalize headB s0 300 = s at *
  generalize headB rest 66 = r at *
  generalize hnn : min n 9 = n' at *
  go_wp2_with fail
  clear c0 f0
  replace HO := HO.set' 0 rfl 0 ((.slice A n' c)) (L' := [(W.heap.size, .cells #[(.slice A n' c), .string rest, .int .u64 (m : Int)] 25 (0, 0))]) rfl
  replace HO := HO.set' 0 rfl 1 ((.string r)) (L' := [(W.heap.size, .cells #[(.slice A n' c), (.string r), .int .u64 (m : Int)] 25 (0, 0))]) rfl
  replace HO := HO.set' 0 rfl 2 ((.int .u64 (m : Nat))) (L' := [(W.heap.size, .cells #[(.slice A n' c), (.string r), (.int .u64 (m : Nat))] 25 (0, 0))]) rfl
  revert HO
  generalize World.setCell (World.setCell (World.setCell _ _ _) _ _) _ _ = wb
  intro HO
  obtain ⟨t, ht, ht1, ht2, q, hq, hq1, hq2⟩ := modQ i s.size
  obtain ⟨t', ht', ht1', ht2', k, hqk, hk, hk1, hk2⟩ := modQ2 j s.size q hq
  have HN1 := Lib.hid (words_three f r (s.extract 0 q) (s.extract q k) (s.extract k s.size))
  have HN2 := Lib.hid (left_three r (s.extract 0 q) (s.extract q k) (s.extract k s.size))
  have HN3 := Lib.hid (addM_three m (s.extract 0 q).size (s.extract q k).size (s.extract k s.size).size)
  rw [three_parts s q k hqk] at HN1 HN2
  rw [← ByteArray.size_append, ← ByteArray.size_append, three_parts s q k hqk] at HN3
  have hs : s.size ≤ 300 := by omega
  clear h300
  have hq0 : (0 : Int) ≤ (q : Int) := by omega
  have hqs : (q : Int) ≤ (s.size : Int) := by omega
  have hl1 : (0 : Int) < (s.size : Int) + 1 := by omega
  have hl2 : (s.size : Int) ≤ 300 := by omega
  have hl3 : (0 : Int) < (s.size : Int) - (q : Int) + 1 := by omega
  have hqk' : (q : Int) ≤ (k : Int) := by omega
  have hk' : (k : Int) ≤ (s.size : Int) := by omega
  cases hr : rightB n' r m
  · refine (Write_no A n' c r s m _ hr).mono ?_
    rintro e w2 ⟨rfl, hb⟩
    replace HO := HO.up hb
    clear hb
    unfold hashV
    have HO2 := HO.alloc' (.cells #[.slice none 0 0, .string ⟨#[]⟩, .int .u64 0] 25) rfl
    have c0 := HO2.cell 0 rfl
    have f0 := HO2.frozen 0 rfl
    go_wp2_with fail
    clear c0 f0
    replace HO := HO2
    clear HO2
    generalize w2.heap.size = gw at *
    refine (alive03 _ (HK.out _ HO.below)).mono ?_
    rintro e w2 ⟨rfl, hb⟩
    replace HO := HO.up hb
    clear hb
    have c0 := HO.cell 0 rfl
    go_wp2
    go_ret
    exact ⟨rfl, HO.below⟩
  · have h8 : n' = 8 := by unfold rightB at hr; simp at hr; exact hr.1
    subst h8
    refine (Write_yes A c f r s m _ ((HRN.out _ HO.below).to8) (HK.out _ HO.below) hr (by omega)).mono ?_
    rintro e w2 ⟨⟨g1, hg1, rfl, hRw⟩, hb⟩
    replace HO := HO.up hb
    clear hb
    unfold hashV
    have HRw := Lib.hid (right_behind (s := s) hr)
    have HR1 := Lib.hid (right_behind (s := s.extract 0 q) hr)
    have HR2 := Lib.hid (right_behind (s := s.extract q k) HR1.out)
    have HR3 := Lib.hid (right_behind (s := s.extract k s.size) HR2.out)
    have hz1 : (s.extract 0 q).size ≤ 300 := by rw [ByteArray.size_extract]; omega
    have hz2 : (s.extract q k).size ≤ 300 := by rw [ByteArray.size_extract]; omega
    have hz3 : (s.extract k s.size).size ≤ 300 := by rw [ByteArray.size_extract]; omega
    have HZ := Lib.hid (And.intro hz1 (And.intro hz2 hz3))
    clear hz1 hz2 hz3
    generalize wordsF f (r ++ s) = Fw at *
    generalize leftF (r ++ s) = Lw at *
    generalize addM m s.size = Mw at *
    have HO2 := HO.alloc' (.cells #[.slice (some ⟨g1, 0, none⟩) 8 8, .string Lw, .int .u64 (Mw : Nat)] 25) rfl
    have c0 := HO2.cell 0 rfl
    have f0 := HO2.frozen 0 rfl
    go_wp2_with fail
    clear c0 f0
    clear hk1 hk2 hq1 hq2 ht ht' ht1 ht1' ht2 ht2' hl1 hl3
    have hqd : (q : Int) + ((k : Int) - (q : Int)) = (k : Int) := by omega
    have hwk : wrap64 (k : Int) = (k : Int) := by unfold wrap64; omega
    replace HO := HO2
    replace hRw := hRw.up (below_alloc (Below.refl _ _) (.cells #[.slice (some ⟨g1, 0, none⟩) 8 8, .string Lw, .int .u64 (Mw : Nat)] 25))
    clear HO2
    generalize w2.heap.size = gw at *
    revert HO hRw
    generalize World.alloc _ _ = wb
    intro hRw HO
    clear hg1
    have HLT := HO.allLt
    have HB0 := HO.below.size
    refine dstart (fun w => w.heap.size) [(8, 11, 25, #[.slice none 0 0, .string ⟨#[]⟩, .int .u64 0])] [7] (n := 11) (ds := [9]) #[false, false, false, false, false, false, false, false, false, false, false] (by kernel_rfl) (by intro d hd; simp only [List.mem_cons, List.not_mem_nil, or_false] at hd; rcases hd with rfl <;> (intro o ho ev w; cases ho; go_simp; rfl)) (by kernel_rfl) rfl rfl (Nat.le_refl _) (fun _ _ _ _ _ h => h) (fun HD HBS => ?_)
    refine bseq (m := 7) (.inr HD) [(1, true, some 76), (2, true, some 77), (3, true, some 78), (0, true, some 75)] #[true, true, true, true, false, false, false, false, false, false, false] HBS (by kernel_rfl) rfl (fun _ _ _ _ _ h => h) ?_
    repeat (first
      | (refine sP (v := ?_) (a' := ?_) rfl rfl (by rfl) ?_ ?_ ?_; rotate_left 2; (· intro w'; go_simp; with_reducible rfl); (· simp only [Act.put, List.setIfInBounds_toArray, List.set_cons_zero, List.set_cons_succ, kw64, kw32]; rfl))
      | (refine sB (v := ?_) (a' := ?_) rfl rfl (by rfl) ?_ ?_ ?_; rotate_left 2; (· intro w1 hg; have c0 := (HO.up hg).cell 1 rfl; go_simp; with_reducible rfl); (· simp only [Act.put, List.setIfInBounds_toArray, List.set_cons_zero, List.set_cons_succ, kw64, kw32]; rfl)))
    refine bone (i := 4) (N := (some 79)) #[true, true, true, true, true, false, false, false, false, false, false] rfl rfl (by kernel_rfl) HBS (fun w1 hg K hK => ?_)
    rw [if_pos (by rfl)]
    replace HO := HO.up hg
    refine wp_call Tryd.func17 rfl (by kernel_rfl) rfl (by rfl) ((Write_yes A c f r (s.extract 0 q) m _ ((HRN.out _ HO.below).to8) (HK.out _ HO.below) hr (by have := HZ.out.1; omega)).mono ?_)
    rintro e w2 ⟨⟨g2, hg2, rfl, hRa⟩, hb⟩
    replace hRw := (hRw.up hg).up hb
    unfold hashV
    generalize leftF (r ++ s.extract 0 q) = La at *
    generalize wordsF f (r ++ s.extract 0 q) = Fa at *
    generalize addM m (s.extract 0 q).size = Ma at *
    refine ⟨_, rfl, hK _ _ (not_ds (by decide) hb) (fun HBS => ?_)⟩
    replace HO := HO.up hb
    simp only [Act.put, List.setIfInBounds_toArray, List.set_cons_zero, List.set_cons_succ]
    refine bseq (m := 3) (.inr HD) [(5, true, some 74), (6, true, some 80), (7, true, some 81)] #[true, true, true, true, true, true, true, true, false, false, false] HBS (by kernel_rfl) rfl (fun _ _ _ _ _ h => h) ?_
    repeat (first
      | (refine sP (v := ?_) (a' := ?_) rfl rfl (by rfl) ?_ ?_ ?_; rotate_left 2; (· intro w'; go_simp; with_reducible rfl); (· simp only [Act.put, List.setIfInBounds_toArray, List.set_cons_zero, List.set_cons_succ, kw64, kw32]; rfl))
      | (refine sL (v := ?_) (a' := ?_) rfl rfl (by rfl) ?_ ?_ ?_; rotate_left 2; (· intro w1 hg; have c0 := (HO.up hg).cell 1 rfl; go_simp; with_reducible rfl); (· simp only [Act.put, List.setIfInBounds_toArray, List.set_cons_zero, List.set_cons_succ, kw64, kw32]; rfl)))
    refine balloc HD (8, 11, 25, #[.slice none 0 0, .string ⟨#[]⟩, .int .u64 0]) (by simp) #[true, true, true, true, true, true, true, true, true, false, false] (by kernel_rfl) HBS (fun w1 gD hg hgD hbD HBS => ?_)
    have hlt := HLT
    replace HO : Own W [(gD, .cells #[.slice none 0 0, .string ⟨#[]⟩, .int .u64 0] 25 (0, 0)), (gw, .cells #[.slice (some ⟨g1, 0, none⟩) 8 8, .string Lw, .int .u64 (Mw : Nat)] 25 (0, 0)), (W.heap.size, .cells #[.slice A 8 c, .string r, .int .u64 (m : Nat)] 25 (0, 0))] _ := (HO.up hg).takeB hlt hgD HB0 hbD
    have hne := row8_ne (hRa.up hg) (HO.cell 0 rfl 0)
    simp only [ptrV]
    replace hRa := hRa.up hg
    replace hRw := hRw.up hg
    have hn_hRw := row8_ne hRw (HO.cell 0 rfl 0)
    simp only [Act.put, List.setIfInBounds_toArray, List.set_cons_zero, List.set_cons_succ]
    clear hg hbD hlt
    refine bone (i := 9) (N := none) #[true, true, true, true, true, true, true, true, true, true, false] rfl rfl (by kernel_rfl) HBS (fun w1 hg K hK => ?_)
    rw [if_pos (by rfl)]
    replace HO := HO.up hg
    have c1 := HO.cell 0 rfl
    have f1 := HO.frozen 0 rfl
    replace hRa := hRa.up hg
    replace hRw := hRw.up hg
    go_simp
    refine hK _ _ (in_ds (by decide) (((bel_set (by omega)).trans (bel_set (by omega))).trans (bel_set (by omega)))) (fun HBS => ?_)
    replace HO := HO.set' 0 rfl 0 (.slice (some ⟨g2, 0, none⟩) 8 8) (L' := [(gD, .cells #[.slice (some ⟨g2, 0, none⟩) 8 8, .string ⟨#[]⟩, .int .u64 0] 25 (0, 0)), (gw, .cells #[.slice (some ⟨g1, 0, none⟩) 8 8, .string Lw, .int .u64 (Mw : Nat)] 25 (0, 0)), (W.heap.size, .cells #[.slice A 8 c, .string r, .int .u64 (m : Nat)] 25 (0, 0))]) rfl
    replace HO := HO.set' 0 rfl 1 (.string La) (L' := [(gD, .cells #[.slice (some ⟨g2, 0, none⟩) 8 8, .string La, .int .u64 0] 25 (0, 0)), (gw, .cells #[.slice (some ⟨g1, 0, none⟩) 8 8, .string Lw, .int .u64 (Mw : Nat)] 25 (0, 0)), (W.heap.size, .cells #[.slice A 8 c, .string r, .int .u64 (m : Nat)] 25 (0, 0))]) rfl
    replace HO := HO.set' 0 rfl 2 (.int .u64 (Ma : Nat)) (L' := [(gD, .cells #[.slice (some ⟨g2, 0, none⟩) 8 8, .string La, .int .u64 (Ma : Nat)] 25 (0, 0)), (gw, .cells #[.slice (some ⟨g1, 0, none⟩) 8 8, .string Lw, .int .u64 (Mw : Nat)] 25 (0, 0)), (W.heap.size, .cells #[.slice A 8 c, .string r, .int .u64 (m : Nat)] 25 (0, 0))]) rfl
    replace hRa := ((hRa.set (j := 0) (v := (.slice (some ⟨g2, 0, none⟩) 8 8)) hne).set (j := 1) (v := (.string La)) hne).set (j := 2) (v := (.int .u64 (Ma : Nat))) hne
    replace hRw := ((hRw.set (j := 0) (v := (.slice (some ⟨g2, 0, none⟩) 8 8)) hn_hRw).set (j := 1) (v := (.string La)) hn_hRw).set (j := 2) (v := (.int .u64 (Ma : Nat))) hn_hRw
    clear c1 f1 hg K hK
    revert HO HBS hRa hRw
    generalize World.setCell (World.setCell _ _ _) _ _ = wb
    intro HBS HO hRa hRw
    refine bseq (m := 0) (.inr HD) [(10, true, some 12)] #[true, true, true, true, true, true, true, true, true, true, true] HBS (by kernel_rfl) rfl (fun _ _ _ _ _ h => h) ?_
    repeat (first
      | (refine sP (v := ?_) (a' := ?_) rfl rfl (by rfl) ?_ ?_ ?_; rotate_left 2; (· intro w'; go_simp; with_reducible rfl); (· simp only [Act.put, List.setIfInBounds_toArray, List.set_cons_zero, List.set_cons_succ, kw64, kw32]; rfl))
      | (refine sL (v := ?_) (a' := ?_) rfl rfl (by rfl) ?_ ?_ ?_; rotate_left 2; (· intro w1 hg; have c0 := (HO.up hg).cell 1 rfl; go_simp; with_reducible rfl); (· simp only [Act.put, List.setIfInBounds_toArray, List.set_cons_zero, List.set_cons_succ, kw64, kw32]; rfl)))
    refine bdone (by kernel_rfl) (fun w1 hg => ?_)
    replace HO := HO.up hg
    replace hRa := hRa.up hg
    replace hRw := hRw.up hg
    clear hg HLT HB0 hgD hne HBS
    generalize gD = gA at *
    go_wp2_with fail
    have HLT := HO.allLt
    have HB0 := HO.below.size
    refine dstart (fun w => w.heap.size) [(11, 13, 25, #[.slice none 0 0, .string ⟨#[]⟩, .int .u64 0])] [10] (n := 14) (ds := [12]) #[false, false, false, false, false, false, false, false, false, false, false, false, false, false] (by kernel_rfl) (by intro d hd; simp only [List.mem_cons, List.not_mem_nil, or_false] at hd; rcases hd with rfl <;> (intro o ho ev w; cases ho; go_simp; rfl)) (by kernel_rfl) rfl rfl (Nat.le_refl _) (fun _ _ _ _ _ h => h) (fun HD HBS => ?_)
    refine bseq (m := 7) (.inr HD) [(1, true, some 84), (2, true, some 85), (3, true, some 86), (4, true, some 87), (5, true, some 88), (6, true, some 89), (0, true, some 83)] #[true, true, true, true, true, true, true, false, false, false, false, false, false, false] HBS (by kernel_rfl) rfl (fun _ _ _ _ _ h => h) ?_
    repeat (first
      | (refine sP (v := ?_) (a' := ?_) rfl rfl (by rfl) ?_ ?_ ?_; rotate_left 2; (· intro w'; go_simp; with_reducible rfl); (· simp only [Act.put, List.setIfInBounds_toArray, List.set_cons_zero, List.set_cons_succ, kw64, kw32]; rfl))
      | (refine sB (v := ?_) (a' := ?_) rfl rfl (by rfl) ?_ ?_ ?_; rotate_left 2; (· intro w1 hg; have c0 := (HO.up hg).cell 0 rfl; go_simp; with_reducible rfl); (· simp only [Act.put, List.setIfInBounds_toArray, List.set_cons_zero, List.set_cons_succ, kw64, kw32]; rfl)))
    refine bone (i := 7) (N := (some 90)) #[true, true, true, true, true, true, true, true, false, false, false, false, false, false] rfl rfl (by kernel_rfl) HBS (fun w1 hg K hK => ?_)
    rw [if_pos (by rfl)]
    replace HO := HO.up hg
    refine wp_call Tryd.func17 rfl (by kernel_rfl) rfl (by rfl) ((Write_yes _ 8 Fa La (s.extract q k) Ma _ (hRa.up hg) (HK.out _ HO.below) HR1.out (by have := HZ.out.2.1; omega)).mono ?_)
    rintro e w2 ⟨⟨g3, hg3, rfl, hRb⟩, hb⟩
    replace hRw := (hRw.up hg).up hb
    unfold hashV
    generalize leftF (La ++ s.extract q k) = Lb at *
    generalize wordsF Fa (La ++ s.extract q k) = Fb at *
    generalize addM Ma (s.extract q k).size = Mb at *
    refine ⟨_, rfl, hK _ _ (not_ds (by decide) hb) (fun HBS => ?_)⟩
    replace HO := HO.up hb
    simp only [Act.put, List.setIfInBounds_toArray, List.set_cons_zero, List.set_cons_succ]
    refine bseq (m := 3) (.inr HD) [(8, true, some 82), (9, true, some 91), (10, true, some 92)] #[true, true, true, true, true, true, true, true, true, true, true, false, false, false] HBS (by kernel_rfl) rfl (fun _ _ _ _ _ h => h) ?_
    repeat (first
      | (refine sP (v := ?_) (a' := ?_) rfl rfl (by rfl) ?_ ?_ ?_; rotate_left 2; (· intro w'; go_simp; with_reducible rfl); (· simp only [Act.put, List.setIfInBounds_toArray, List.set_cons_zero, List.set_cons_succ, kw64, kw32]; rfl))
      | (refine sL (v := ?_) (a' := ?_) rfl rfl (by rfl) ?_ ?_ ?_; rotate_left 2; (· intro w1 hg; have c0 := (HO.up hg).cell 0 rfl; go_simp; with_reducible rfl); (· simp only [Act.put, List.setIfInBounds_toArray, List.set_cons_zero, List.set_cons_succ, kw64, kw32]; rfl)))
    refine balloc HD (11, 13, 25, #[.slice none 0 0, .string ⟨#[]⟩, .int .u64 0]) (by simp) #[true, true, true, true, true, true, true, true, true, true, true, true, false, false] (by kernel_rfl) HBS (fun w1 gD hg hgD hbD HBS => ?_)
    have hlt := HLT
    replace HO : Own W [(gD, .cells #[.slice none 0 0, .string ⟨#[]⟩, .int .u64 0] 25 (0, 0)), (gA, .cells #[.slice (some ⟨g2, 0, none⟩) 8 8, .string La, .int .u64 (Ma : Nat)] 25 (0, 0)), (gw, .cells #[.slice (some ⟨g1, 0, none⟩) 8 8, .string Lw, .int .u64 (Mw : Nat)] 25 (0, 0)), (W.heap.size, .cells #[.slice A 8 c, .string r, .int .u64 (m : Nat)] 25 (0, 0))] _ := (HO.up hg).takeB hlt hgD HB0 hbD
    have hne := row8_ne (hRb.up hg) (HO.cell 0 rfl 0)
    simp only [ptrV]
    replace hRb := hRb.up hg
    replace hRw := hRw.up hg
    have hn_hRw := row8_ne hRw (HO.cell 0 rfl 0)
    simp only [Act.put, List.setIfInBounds_toArray, List.set_cons_zero, List.set_cons_succ]
    clear hg hbD hlt
    refine bone (i := 12) (N := none) #[true, true, true, true, true, true, true, true, true, true, true, true, true, false] rfl rfl (by kernel_rfl) HBS (fun w1 hg K hK => ?_)
    rw [if_pos (by rfl)]
    replace HO := HO.up hg
    have c1 := HO.cell 0 rfl
    have f1 := HO.frozen 0 rfl
    replace hRb := hRb.up hg
    replace hRw := hRw.up hg
    go_simp
    refine hK _ _ (in_ds (by decide) (((bel_set (by omega)).trans (bel_set (by omega))).trans (bel_set (by omega)))) (fun HBS => ?_)
    replace HO := HO.set' 0 rfl 0 (.slice (some ⟨g3, 0, none⟩) 8 8) (L' := [(gD, .cells #[.slice (some ⟨g3, 0, none⟩) 8 8, .string ⟨#[]⟩, .int .u64 0] 25 (0, 0)), (gA, .cells #[.slice (some ⟨g2, 0, none⟩) 8 8, .string La, .int .u64 (Ma : Nat)] 25 (0, 0)), (gw, .cells #[.slice (some ⟨g1, 0, none⟩) 8 8, .string Lw, .int .u64 (Mw : Nat)] 25 (0, 0)), (W.heap.size, .cells #[.slice A 8 c, .string r, .int .u64 (m : Nat)] 25 (0, 0))]) rfl
    replace HO := HO.set' 0 rfl 1 (.string Lb) (L' := [(gD, .cells #[.slice (some ⟨g3, 0, none⟩) 8 8, .string Lb, .int .u64 0] 25 (0, 0)), (gA, .cells #[.slice (some ⟨g2, 0, none⟩) 8 8, .string La, .int .u64 (Ma : Nat)] 25 (0, 0)), (gw, .cells #[.slice (some ⟨g1, 0, none⟩) 8 8, .string Lw, .int .u64 (Mw : Nat)] 25 (0, 0)), (W.heap.size, .cells #[.slice A 8 c, .string r, .int .u64 (m : Nat)] 25 (0, 0))]) rfl
    replace HO := HO.set' 0 rfl 2 (.int .u64 (Mb : Nat)) (L' := [(gD, .cells #[.slice (some ⟨g3, 0, none⟩) 8 8, .string Lb, .int .u64 (Mb : Nat)] 25 (0, 0)), (gA, .cells #[.slice (some ⟨g2, 0, none⟩) 8 8, .string La, .int .u64 (Ma : Nat)] 25 (0, 0)), (gw, .cells #[.slice (some ⟨g1, 0, none⟩) 8 8, .string Lw, .int .u64 (Mw : Nat)] 25 (0, 0)), (W.heap.size, .cells #[.slice A 8 c, .string r, .int .u64 (m : Nat)] 25 (0, 0))]) rfl
    replace hRb := ((hRb.set (j := 0) (v := (.slice (some ⟨g3, 0, none⟩) 8 8)) hne).set (j := 1) (v := (.string Lb)) hne).set (j := 2) (v := (.int .u64 (Mb : Nat))) hne
    replace hRw := ((hRw.set (j := 0) (v := (.slice (some ⟨g3, 0, none⟩) 8 8)) hn_hRw).set (j := 1) (v := (.string Lb)) hn_hRw).set (j := 2) (v := (.int .u64 (Mb : Nat))) hn_hRw
    clear c1 f1 hg K hK
    revert HO HBS hRb hRw
    generalize World.setCell (World.setCell _ _ _) _ _ = wb
    intro HBS HO hRb hRw
    refine bseq (m := 0) (.inr HD) [(13, true, some 14)] #[true, true, true, true, true, true, true, true, true, true, true, true, true, true] HBS (by kernel_rfl) rfl (fun _ _ _ _ _ h => h) ?_
    repeat (first
      | (refine sP (v := ?_) (a' := ?_) rfl rfl (by rfl) ?_ ?_ ?_; rotate_left 2; (· intro w'; go_simp; with_reducible rfl); (· simp only [Act.put, List.setIfInBounds_toArray, List.set_cons_zero, List.set_cons_succ, kw64, kw32]; rfl))
      | (refine sL (v := ?_) (a' := ?_) rfl rfl (by rfl) ?_ ?_ ?_; rotate_left 2; (· intro w1 hg; have c0 := (HO.up hg).cell 0 rfl; go_simp; with_reducible rfl); (· simp only [Act.put, List.setIfInBounds_toArray, List.set_cons_zero, List.set_cons_succ, kw64, kw32]; rfl)))
    refine bdone (by kernel_rfl) (fun w1 hg => ?_)
    replace HO := HO.up hg
    replace hRb := hRb.up hg
    replace hRw := hRw.up hg
    clear hg HLT HB0 hgD hne HBS
    generalize gD = gB at *
    clear hRa HR1
    go_wp2_with fail
    have HLT := HO.allLt
    have HB0 := HO.below.size
    refine dstart (fun w => w.heap.size) [(10, 15, 25, #[.slice none 0 0, .string ⟨#[]⟩, .int .u64 0])] [9] (n := 13) (ds := [11]) #[false, false, false, false, false, false, false, false, false, false, false, false, false] (by kernel_rfl) (by intro d hd; simp only [List.mem_cons, List.not_mem_nil, or_false] at hd; rcases hd with rfl <;> (intro o ho ev w; cases ho; go_simp; rfl)) (by kernel_rfl) rfl rfl (Nat.le_refl _) (fun _ _ _ _ _ h => h) (fun HD HBS => ?_)
    refine bseq (m := 7) (.inr HD) [(1, true, some 95), (2, true, some 96), (3, true, some 97), (4, true, some 98), (5, true, some 99), (0, true, some 94)] #[true, true, true, true, true, true, false, false, false, false, false, false, false] HBS (by kernel_rfl) rfl (fun _ _ _ _ _ h => h) ?_
    repeat (first
      | (refine sP (v := ?_) (a' := ?_) rfl rfl (by rfl) ?_ ?_ ?_; rotate_left 2; (· intro w'; go_simp; with_reducible rfl); (· simp only [Act.put, List.setIfInBounds_toArray, List.set_cons_zero, List.set_cons_succ, kw64, kw32]; rfl))
      | (refine sB (v := ?_) (a' := ?_) rfl rfl (by rfl) ?_ ?_ ?_; rotate_left 2; (· intro w1 hg; have c0 := (HO.up hg).cell 0 rfl; go_simp; with_reducible rfl); (· simp only [Act.put, List.setIfInBounds_toArray, List.set_cons_zero, List.set_cons_succ, kw64, kw32]; rfl)))
    refine bone (i := 6) (N := (some 100)) #[true, true, true, true, true, true, true, false, false, false, false, false, false] rfl rfl (by kernel_rfl) HBS (fun w1 hg K hK => ?_)
    rw [if_pos (by rfl)]
    replace HO := HO.up hg
    refine wp_call Tryd.func17 rfl (by kernel_rfl) rfl (by rfl) ((Write_yes _ 8 Fb Lb (s.extract k s.size) Mb _ (hRb.up hg) (HK.out _ HO.below) HR2.out (by have := HZ.out.2.2; omega)).mono ?_)
    rintro e w2 ⟨⟨g4, hg4, rfl, hRc⟩, hb⟩
    replace hRw := (hRw.up hg).up hb
    unfold hashV
    generalize leftF (Lb ++ s.extract k s.size) = Lc at *
    generalize wordsF Fb (Lb ++ s.extract k s.size) = Fc at *
    generalize addM Mb (s.extract k s.size).size = Mc at *
    refine ⟨_, rfl, hK _ _ (not_ds (by decide) hb) (fun HBS => ?_)⟩
    replace HO := HO.up hb
    simp only [Act.put, List.setIfInBounds_toArray, List.set_cons_zero, List.set_cons_succ]
    refine bseq (m := 3) (.inr HD) [(7, true, some 93), (8, true, some 101), (9, true, some 102)] #[true, true, true, true, true, true, true, true, true, true, false, false, false] HBS (by kernel_rfl) rfl (fun _ _ _ _ _ h => h) ?_
    repeat (first
      | (refine sP (v := ?_) (a' := ?_) rfl rfl (by rfl) ?_ ?_ ?_; rotate_left 2; (· intro w'; go_simp; with_reducible rfl); (· simp only [Act.put, List.setIfInBounds_toArray, List.set_cons_zero, List.set_cons_succ, kw64, kw32]; rfl))
      | (refine sL (v := ?_) (a' := ?_) rfl rfl (by rfl) ?_ ?_ ?_; rotate_left 2; (· intro w1 hg; have c0 := (HO.up hg).cell 0 rfl; go_simp; with_reducible rfl); (· simp only [Act.put, List.setIfInBounds_toArray, List.set_cons_zero, List.set_cons_succ, kw64, kw32]; rfl)))
    refine balloc HD (10, 15, 25, #[.slice none 0 0, .string ⟨#[]⟩, .int .u64 0]) (by simp) #[true, true, true, true, true, true, true, true, true, true, true, false, false] (by kernel_rfl) HBS (fun w1 gD hg hgD hbD HBS => ?_)
    have hlt := HLT
    replace HO : Own W [(gD, .cells #[.slice none 0 0, .string ⟨#[]⟩, .int .u64 0] 25 (0, 0)), (gB, .cells #[.slice (some ⟨g3, 0, none⟩) 8 8, .string Lb, .int .u64 (Mb : Nat)] 25 (0, 0)), (gA, .cells #[.slice (some ⟨g2, 0, none⟩) 8 8, .string La, .int .u64 (Ma : Nat)] 25 (0, 0)), (gw, .cells #[.slice (some ⟨g1, 0, none⟩) 8 8, .string Lw, .int .u64 (Mw : Nat)] 25 (0, 0)), (W.heap.size, .cells #[.slice A 8 c, .string r, .int .u64 (m : Nat)] 25 (0, 0))] _ := (HO.up hg).takeB hlt hgD HB0 hbD
    have hne := row8_ne (hRc.up hg) (HO.cell 0 rfl 0)
    simp only [ptrV]
    replace hRc := hRc.up hg
    replace hRw := hRw.up hg
    have hn_hRw := row8_ne hRw (HO.cell 0 rfl 0)
    simp only [Act.put, List.setIfInBounds_toArray, List.set_cons_zero, List.set_cons_succ]
    clear hg hbD hlt
    refine bone (i := 11) (N := none) #[true, true, true, true, true, true, true, true, true, true, true, true, false] rfl rfl (by kernel_rfl) HBS (fun w1 hg K hK => ?_)
    rw [if_pos (by rfl)]
    replace HO := HO.up hg
    have c1 := HO.cell 0 rfl
    have f1 := HO.frozen 0 rfl
    replace hRc := hRc.up hg
    replace hRw := hRw.up hg
    go_simp
    refine hK _ _ (in_ds (by decide) (((bel_set (by omega)).trans (bel_set (by omega))).trans (bel_set (by omega)))) (fun HBS => ?_)
    replace HO := HO.set' 0 rfl 0 (.slice (some ⟨g4, 0, none⟩) 8 8) (L' := [(gD, .cells #[.slice (some ⟨g4, 0, none⟩) 8 8, .string ⟨#[]⟩, .int .u64 0] 25 (0, 0)), (gB, .cells #[.slice (some ⟨g3, 0, none⟩) 8 8, .string Lb, .int .u64 (Mb : Nat)] 25 (0, 0)), (gA, .cells #[.slice (some ⟨g2, 0, none⟩) 8 8, .string La, .int .u64 (Ma : Nat)] 25 (0, 0)), (gw, .cells #[.slice (some ⟨g1, 0, none⟩) 8 8, .string Lw, .int .u64 (Mw : Nat)] 25 (0, 0)), (W.heap.size, .cells #[.slice A 8 c, .string r, .int .u64 (m : Nat)] 25 (0, 0))]) rfl
    replace HO := HO.set' 0 rfl 1 (.string Lc) (L' := [(gD, .cells #[.slice (some ⟨g4, 0, none⟩) 8 8, .string Lc, .int .u64 0] 25 (0, 0)), (gB, .cells #[.slice (some ⟨g3, 0, none⟩) 8 8, .string Lb, .int .u64 (Mb : Nat)] 25 (0, 0)), (gA, .cells #[.slice (some ⟨g2, 0, none⟩) 8 8, .string La, .int .u64 (Ma : Nat)] 25 (0, 0)), (gw, .cells #[.slice (some ⟨g1, 0, none⟩) 8 8, .string Lw, .int .u64 (Mw : Nat)] 25 (0, 0)), (W.heap.size, .cells #[.slice A 8 c, .string r, .int .u64 (m : Nat)] 25 (0, 0))]) rfl
    replace HO := HO.set' 0 rfl 2 (.int .u64 (Mc : Nat)) (L' := [(gD, .cells #[.slice (some ⟨g4, 0, none⟩) 8 8, .string Lc, .int .u64 (Mc : Nat)] 25 (0, 0)), (gB, .cells #[.slice (some ⟨g3, 0, none⟩) 8 8, .string Lb, .int .u64 (Mb : Nat)] 25 (0, 0)), (gA, .cells #[.slice (some ⟨g2, 0, none⟩) 8 8, .string La, .int .u64 (Ma : Nat)] 25 (0, 0)), (gw, .cells #[.slice (some ⟨g1, 0, none⟩) 8 8, .string Lw, .int .u64 (Mw : Nat)] 25 (0, 0)), (W.heap.size, .cells #[.slice A 8 c, .string r, .int .u64 (m : Nat)] 25 (0, 0))]) rfl
    replace hRc := ((hRc.set (j := 0) (v := (.slice (some ⟨g4, 0, none⟩) 8 8)) hne).set (j := 1) (v := (.string Lc)) hne).set (j := 2) (v := (.int .u64 (Mc : Nat))) hne
    replace hRw := ((hRw.set (j := 0) (v := (.slice (some ⟨g4, 0, none⟩) 8 8)) hn_hRw).set (j := 1) (v := (.string Lc)) hn_hRw).set (j := 2) (v := (.int .u64 (Mc : Nat))) hn_hRw
    clear c1 f1 hg K hK
    revert HO HBS hRc hRw
    generalize World.setCell (World.setCell _ _ _) _ _ = wb
    intro HBS HO hRc hRw
    refine bseq (m := 0) (.inr HD) [(12, true, some 16)] #[true, true, true, true, true, true, true, true, true, true, true, true, true] HBS (by kernel_rfl) rfl (fun _ _ _ _ _ h => h) ?_
    repeat (first
      | (refine sP (v := ?_) (a' := ?_) rfl rfl (by rfl) ?_ ?_ ?_; rotate_left 2; (· intro w'; go_simp; with_reducible rfl); (· simp only [Act.put, List.setIfInBounds_toArray, List.set_cons_zero, List.set_cons_succ, kw64, kw32]; rfl))
      | (refine sL (v := ?_) (a' := ?_) rfl rfl (by rfl) ?_ ?_ ?_; rotate_left 2; (· intro w1 hg; have c0 := (HO.up hg).cell 0 rfl; go_simp; with_reducible rfl); (· simp only [Act.put, List.setIfInBounds_toArray, List.set_cons_zero, List.set_cons_succ, kw64, kw32]; rfl)))
    refine bdone (by kernel_rfl) (fun w1 hg => ?_)
    replace HO := HO.up hg
    replace hRc := hRc.up hg
    replace hRw := hRw.up hg
    clear hg HLT HB0 hgD hne HBS
    generalize gD = gC at *
    clear hRb
    obtain rfl := HN1.out
    obtain rfl := HN2.out
    obtain rfl := HN3.out
    clear HN1 HN2 HN3
    obtain ⟨x, hx⟩ : ∃ x, sumF Fc Lc Mc = x := ⟨_, rfl⟩
    have hsz := sumF_size Fc Lc Mc
    rw [hx] at hsz
    have HX := Lib.hid hx
    clear hx
    have hxx : (x.toList == x.toList) = true := by simp
    have hx32 : ((x.size : Int) == 32) = true := by rw [hsz]; rfl
    clear hsz
    have c0 := HO.cell 0 rfl
    go_wp2_with fail
    clear c0
    refine (Sum_yes _ 8 Fc Lc Mc _ hRc (HK.out _ HO.below) HRw.out).mono ?_
    rintro e w2 ⟨hS, hb⟩
    unfold SumR at hS
    rw [HX.out] at hS
    subst hS
    replace HO := HO.up hb
    replace hRc := hRc.up hb
    replace hRw := hRw.up hb
    clear hb
    have c3 := HO.cell 3 rfl
    go_wp2_with fail
    clear c3
    refine (Sum_yes _ 8 Fc Lc Mc _ hRw (HK.out _ HO.below) HRw.out).mono ?_
    rintro e w2 ⟨hS, hb⟩
    unfold SumR at hS
    rw [HX.out] at hS
    subst hS
    replace HO := HO.up hb
    replace hRc := hRc.up hb
    replace hRw := hRw.up hb
    clear hb
    have c3 := HO.cell 3 rfl
    go_wp2_with fail
    clear c3
    refine (Sum_yes _ 8 Fc Lc Mc _ hRw (HK.out _ HO.below) HRw.out).mono ?_
    rintro e w2 ⟨hS, hb⟩
    unfold SumR at hS
    rw [HX.out] at hS
    subst hS
    replace HO := HO.up hb
    replace hRc := hRc.up hb
    replace hRw := hRw.up hb
    clear hb
    go_wp2_with fail
    refine (alive03 _ (HK.out _ HO.below)).mono ?_
    rintro e w2 ⟨rfl, hb⟩
    replace HO := HO.up hb
    replace hRc := hRc.up hb
    replace hRw := hRw.up hb
    clear hb
    have c0 := HO.cell 0 rfl
    have c3 := HO.cell 3 rfl
    go_wp2_with fail
    clear c0 c3
    refine (Same_any _ _ 8 8 8 8 Fc Fc Lc Lc Mc Mc _ (by decide) hRc.toN hRw.toN).mono ?_
    rintro e w2 ⟨rfl, hb⟩
    rw [show sameB 8 8 Fc Fc Lc Lc Mc Mc = true from decide_eq_true ⟨rfl, rfl, rfl, fun _ _ => rfl⟩]
    replace HO := HO.up hb
    replace hRc := hRc.up hb
    replace hRw := hRw.up hb
    clear hb
    have c3 := HO.cell 3 rfl
    go_wp2_with fail
    clear c3
    refine (Right_any _ 8 8 Lc Mc _).mono ?_
    rintro e w2 ⟨rfl, hb⟩
    rw [HRw.out]
    replace HO := HO.up hb
    replace hRc := hRc.up hb
    replace hRw := hRw.up hb
    clear hb
    have c1 := HO.cell 1 rfl
    go_wp2_with fail
    clear c1
    refine (Right_any _ 8 8 Lb Mb _).mono ?_
    rintro e w2 ⟨rfl, hb⟩
    rw [HR2.out]
    replace HO := HO.up hb
    replace hRc := hRc.up hb
    replace hRw := hRw.up hb
    clear hb
    go_wp2
    go_ret
    exact ⟨rfl, HO.below⟩
end Go.Proofs.YtpafocjmheemjaaDoor

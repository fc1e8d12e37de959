import Derived.Test.YtpafocjmheemjaaDoorShaH
set_option linter.unusedSimpArgs false
namespace Go.Proofs.YtpafocjmheemjaaDoor
open Go.RowKit Go.Proofs.YtpafocjmheemjaaDoorW.PrintWords
/-- a text cut -/
def headB (s : ByteArray) (n : Nat) : ByteArray := s.extract 0 (min s.size n)
theorem headB_size (s : ByteArray) (n : Nat) : (headB s n).size = min s.size n := by unfold headB; rw [ByteArray.size_extract]; omega
theorem headB_le (s : ByteArray) (n : Nat) (h : s.size ≤ n) : headB s n = s := by unfold headB; rw [Nat.min_eq_left h]; exact ByteArray.extract_zero_size
theorem headB_gt (s : ByteArray) (n : Nat) (h : n < s.size) : headB s n = s.extract 0 n := by unfold headB; rw [Nat.min_eq_right (by omega)]
attribute [local irreducible] Calls mixF
theorem cut03 (s : ByteArray) (w : World) : Calls Tryd.prog 16 #[.string s] w fun e w' => e = .returned (.string (headB s 300)) ∧ Below w.heap.size w w' := by
  go_enter Tryd.func16, Tryd.ntmps16
  go_wp2
  go_ret
  exact ⟨by rw [headB, ← show (min (s.size : Int) 300).toNat = min s.size 300 by omega]; rfl, Below.refl _ _⟩
theorem abc_len : (((foldN ((⟨#[97, 98, 99]⟩ : ByteArray) ++ tailF 3 3) 1 ivL).flatMap wordN).length == 32) = true := by decide +kernel
theorem abc_sha : ∃ x : ByteArray, shaF ⟨#[97, 98, 99]⟩ = x ∧ x.size = 32 ∧ ∃ (h0 : 0 < x.size) (h1 : 1 < x.size), (x[0]'h0).toNat = 186 ∧ (x[1]'h1).toNat = 120 := by
  have h := shaF_N ⟨#[97, 98, 99]⟩
  rw [show ((⟨#[97, 98, 99]⟩ : ByteArray).size % 64) = 3 from rfl, show addM 0 (⟨#[97, 98, 99]⟩ : ByteArray).size = 3 from rfl, show (((⟨#[97, 98, 99]⟩ : ByteArray) ++ tailF 3 3).size / 64) = 1 by decide +kernel] at h
  have h1 := eq_of_beq abc_eval
  have h2 := eq_of_beq abc_len
  generalize (foldN ((⟨#[97, 98, 99]⟩ : ByteArray) ++ tailF 3 3) 1 ivL).flatMap wordN = L at *
  match L, h1, h2 with
  | a :: b :: r, h1, h2 =>
    simp at h1 h2
    obtain ⟨rfl, rfl⟩ := h1
    have hs : (strOfNums (186 :: 120 :: r)).size = 32 := by rw [strOfNums_size]; simp; omega
    exact ⟨_, h, hs, by omega, by omega, rfl, rfl⟩
set_option maxHeartbeats 1000000 in
theorem alive03 (w : World) (hK : KeysAt w) : Calls Tryd.prog 21 #[] w fun e w' => e = .returned (.bool true) ∧ Below w.heap.size w w' := by
  obtain ⟨x, hs, hl, h0, h1, e0, e1⟩ := abc_sha
  have HO := Lib.hid (fun w1 (hg : Gr w w1) => Of_any ⟨#[97, 98, 99]⟩ w1 (hK.up hg) (by decide))
  rw [hs] at HO
  clear hK hs
  have hsz : ((x.size : Int) == 32) = true := by rw [hl]; rfl
  have k0 : (0 : Int) < (x.size : Int) := by omega
  have k1 : (1 : Int) < (x.size : Int) := by omega
  have e0' : (((x[0]'h0).toNat : Nat) : Int) = 186 := by rw [e0]; rfl
  have e1' : (((x[1]'h1).toNat : Nat) : Int) = 120 := by rw [e1]; rfl
  clear hl e0 e1
  go_enter Tryd.func21, Tryd.ntmps21
  go_wp2_with fail
  refine (HO.out _ (Gr.refl _)).mono ?_
  rintro e w1 ⟨rfl, hb⟩
  go_wp2
  go_ret
  exact ⟨rfl, hb⟩
set_option maxHeartbeats 4000000 in
set_option maxRecDepth 100000 in
theorem few03 (A : Option Addr) (n c : Nat) (rest : ByteArray) (m : Nat) (w : World) (hn : n ≤ c) :
    Calls Tryd.prog 15 #[hashV A n c rest m] w fun e w' => e = .returned (hashV A (min n 9) c (headB rest 66) m) ∧ Below w.heap.size w w' := by
  have HH := Lib.hid (show headB rest 66 = rest.extract 0 (min (rest.size : Int) 66).toNat by rw [headB, show (min (rest.size : Int) 66).toNat = min rest.size 66 by omega])
  have HM := Lib.hid (show (min n 9 : Nat) = (min (n : Int) 9).toNat by omega)
  have hlo : (0 : Int) ≤ min (n : Int) 9 := by omega
  have hhi : min (n : Int) 9 ≤ (c : Int) := by omega
  have hlo2 : (0 : Int) ≤ min (rest.size : Int) 66 := by omega
  have hhi2 : min (rest.size : Int) 66 ≤ (rest.size : Int) := by omega
  unfold hashV
  rw [HH.out, HM.out]
  go_enter Tryd.func15, Tryd.ntmps15
  have HO := ((Own.start w).alloc' (.cells #[.slice A n c, .string rest, .int .u64 (m : Int)] 25) rfl).alloc' (.cells #[.slice none 0 0, .string ⟨#[]⟩, .int .u64 0] 25) (by simp : _ = w.heap.size + 1)
  go_wp2_with fail
  refine bstart (fun _ => w.heap.size) (n := 18) (ds := [15, 17]) #[false, false, false, false, false, false, false, false, false, false, false, false, false, false, false, false, false, false] (by kernel_rfl) rfl rfl HO.below.size (fun HBS => ?_)
  refine bseq (m := 3) (.inl rfl) [(0, true, some 3), (2, true, some 5), (7, true, some 10), (9, true, some 12), (1, false, some 4), (3, false, some 6), (4, true, some 7), (5, true, some 8), (6, true, some 9), (8, false, some 11), (10, false, some 13), (11, true, some 14), (12, true, some 15), (13, true, some 16), (14, true, some 17)] #[true, true, true, true, true, true, true, true, true, true, true, true, true, true, true, false, false, false] HBS (by kernel_rfl) rfl (fun _ _ _ _ _ h => h) ?_
  repeat (first
    | (refine sP (v := ?_) (a' := ?_) rfl rfl (by rfl) ?_ ?_ ?_; rotate_left 2; (· intro w'; go_simp; with_reducible rfl); (· simp only [Act.put, List.setIfInBounds_toArray, List.set_cons_zero, List.set_cons_succ, kw64, kw32]; rfl))
    | (refine sL (v := ?_) (a' := ?_) rfl rfl (by rfl) ?_ ?_ ?_; rotate_left 2; (· intro w1 hg; have c0 := (HO.up hg).cell 1 rfl; go_simp; with_reducible rfl); (· simp only [Act.put, List.setIfInBounds_toArray, List.set_cons_zero, List.set_cons_succ, kw64, kw32]; rfl)))
  refine bone (i := 15) (N := none) #[true, true, true, true, true, true, true, true, true, true, true, true, true, true, true, true, false, false] rfl rfl (by kernel_rfl) HBS (fun w1 hg K hK => ?_)
  rw [if_pos (by rfl)]
  replace HO := HO.up hg
  have c1 := HO.cell 1 rfl
  have f1 := HO.frozen 1 rfl
  go_simp
  refine hK _ _ (in_ds (by decide) (bel_set (by omega))) (fun HBS => ?_)
  replace HO := HO.set' 1 rfl 0 (.slice A (min (n : Int) 9).toNat c) (L' := [(w.heap.size + 1, .cells #[.slice none 0 0, .string ⟨#[]⟩, .int .u64 0] 25 (0, 0)), (w.heap.size, .cells #[(.slice A (min (n : Int) 9).toNat c), .string rest, .int .u64 (m : Int)] 25 (0, 0))]) rfl
  clear c1 f1 hg K hK
  revert HO HBS
  generalize World.setCell w1 _ _ = wb
  intro HBS HO
  refine bseq (m := 1) (.inl rfl) [(16, true, some 18)] #[true, true, true, true, true, true, true, true, true, true, true, true, true, true, true, true, true, false] HBS (by kernel_rfl) rfl (fun _ _ _ _ _ h => h) ?_
  repeat (first
    | (refine sP (v := ?_) (a' := ?_) rfl rfl (by rfl) ?_ ?_ ?_; rotate_left 2; (· intro w'; go_simp; with_reducible rfl); (· simp only [Act.put, List.setIfInBounds_toArray, List.set_cons_zero, List.set_cons_succ, kw64, kw32]; rfl))
    | (refine sL (v := ?_) (a' := ?_) rfl rfl (by rfl) ?_ ?_ ?_; rotate_left 2; (· intro w1 hg; have c0 := (HO.up hg).cell 1 rfl; go_simp; with_reducible rfl); (· simp only [Act.put, List.setIfInBounds_toArray, List.set_cons_zero, List.set_cons_succ, kw64, kw32]; rfl)))
  refine bone (i := 17) (N := none) #[true, true, true, true, true, true, true, true, true, true, true, true, true, true, true, true, true, true] rfl rfl (by kernel_rfl) HBS (fun w1 hg K hK => ?_)
  rw [if_pos (by rfl)]
  replace HO := HO.up hg
  have c1 := HO.cell 1 rfl
  have f1 := HO.frozen 1 rfl
  go_simp
  refine hK _ _ (in_ds (by decide) (bel_set (by omega))) (fun HBS => ?_)
  replace HO := HO.set' 1 rfl 1 (.string (rest.extract 0 (min (rest.size : Int) 66).toNat)) (L' := [(w.heap.size + 1, .cells #[.slice none 0 0, .string ⟨#[]⟩, .int .u64 0] 25 (0, 0)), (w.heap.size, .cells #[(.slice A (min (n : Int) 9).toNat c), (.string (rest.extract 0 (min (rest.size : Int) 66).toNat)), .int .u64 (m : Int)] 25 (0, 0))]) rfl
  clear c1 f1 hg K hK
  revert HO HBS
  generalize World.setCell w1 _ _ = wb
  intro HBS HO
  refine bdone (by kernel_rfl) (fun w1 hg => ?_)
  replace HO := HO.up hg
  clear hg
  have c1 := HO.cell 1 rfl
  have c0 := HO.cell 0 rfl
  have f0 := HO.frozen 0 rfl
  go_wp2
  exact bodyPost_ret (v := .agg #[.slice A (min (n : Int) 9).toNat c, .string (rest.extract 0 (min (rest.size : Int) 66).toNat), .int .u64 (m : Int)]) (by simp [results, Tryd.results15, go_sem, *]) rfl ⟨rfl, ((HO.below.trans (bel_set (by omega))).trans (bel_set (by omega))).trans (bel_set (by omega))⟩
end Go.Proofs.YtpafocjmheemjaaDoor

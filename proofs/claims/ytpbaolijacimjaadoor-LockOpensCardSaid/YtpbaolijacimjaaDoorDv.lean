import Derived.Test.YtpbaolijacimjaaDoorDl
set_option linter.unusedSimpArgs false
/- LAYER 6: LockOpens. -/
namespace Go.Proofs.YtpbaolijacimjaaDoor
open Go.RowKit Go.Proofs.YtpbaolijacimjaaDoorW.PrintWords
attribute [local irreducible] Calls mixF
set_option maxHeartbeats 8000000 in
set_option maxRecDepth 100000 in
theorem LockOpens_m (k0 head0 locked0 : ByteArray) (W : World) (hz : locked0.size ≤ 140737488351232) (h2 : mayL (headB k0 40) (cutF head0 60) (((cutF locked0 140).size : Int) - 32) = false) (hK : KeysAt W) :
    Calls Tryd.prog 3 #[.string k0, .string head0, .string locked0] W fun e W' => e = .returned (.bool true) ∧ Below W.heap.size W W' := by
  have hkz := headB_size k0 40
  have hz2 := cutF_size locked0 140 (by omega)
  have HC1 := Lib.hid (cut60 head0)
  have HC2 := Lib.hid (cut140 locked0)
  have HBB := Lib.hid (show headB k0 40 = k0.extract 0 (min k0.size 40) from rfl)
  generalize headB k0 40 = k at *
  generalize cutF head0 60 = head at *
  generalize cutF locked0 140 = locked at *
  have HAl := Lib.hid (fun w1 (hg : Gr W w1) => alive06 w1 (hK.up hg))
  have HM1 := Lib.hid (fun w1 => RMay_any k head ((locked.size : Int) - 32) w1)
  have hw1 : -9223372036854775808 ≤ (locked.size : Int) - 32 := by omega
  have hw2 : (locked.size : Int) - 32 ≤ 9223372036854775807 := by omega
  rw [h2] at HM1
  have HOp := Lib.hid (fun w1 => Open_no k head locked w1 hz2 h2)
  clear h2 hK hz2
  have HO := Own.start W
  clear hz
  go_enter Tryd.func3, Tryd.ntmps3
  go_wp2_with fail
  refine kall [(0, true, some 10), (1, true, some 11), (2, true, some 12), (3, true, some 13), (4, true, some 14), (5, true, some 15), (7, true, some 17), (6, true, some 16), (8, true, some 18), (9, true, some 0), (10, true, some 1), (11, true, some 2)] (by kernel_rfl) rfl (by kernel_rfl) rfl (fun _ _ _ _ _ h => h) ?_
  (refine sP (v := ?_) (a' := ?_) rfl rfl (by rfl) ?_ ?_ ?_; rotate_left 2; (· intro w'; go_simp; with_reducible rfl); (· simp only [Act.put, List.setIfInBounds_toArray, List.set_cons_zero, List.set_cons_succ, kw64, kw32]; rfl))
  (refine sP (v := ?_) (a' := ?_) rfl rfl (by rfl) ?_ ?_ ?_; rotate_left 2; (· intro w'; go_simp; with_reducible rfl); (· simp only [Act.put, List.setIfInBounds_toArray, List.set_cons_zero, List.set_cons_succ, kw64, kw32]; rfl))
  (refine sP (v := ?_) (a' := ?_) rfl rfl (by rfl) ?_ ?_ ?_; rotate_left 2; (· intro w'; go_simp; with_reducible rfl); (· simp only [Act.put, List.setIfInBounds_toArray, List.set_cons_zero, List.set_cons_succ, kw64, kw32]; rfl))
  (refine sP (v := ?_) (a' := ?_) rfl rfl (by rfl) ?_ ?_ ?_; rotate_left 2; (· intro w'; go_simp; with_reducible rfl); (· simp only [Act.put, List.setIfInBounds_toArray, List.set_cons_zero, List.set_cons_succ, kw64, kw32]; rfl))
  (refine sP (v := .string k) (a' := ?_) rfl rfl (by rfl) ?_ ?_ ?_; rotate_left 1; (· intro w'; go_simp; rw [if_pos ⟨by omega, by omega⟩, HBB.out, ← show (min (k0.size : Int) 40).toNat = min k0.size 40 by omega]); (· simp only [Act.put, List.setIfInBounds_toArray, List.set_cons_zero, List.set_cons_succ, kw64, kw32]; rfl))
  (refine sP (v := ?_) (a' := ?_) rfl rfl (by rfl) ?_ ?_ ?_; rotate_left 2; (· intro w'; go_simp; with_reducible rfl); (· simp only [Act.put, List.setIfInBounds_toArray, List.set_cons_zero, List.set_cons_succ, kw64, kw32]; rfl))
  (refine sP (v := ?_) (a' := ?_) rfl rfl (by rfl) ?_ ?_ ?_; rotate_left 2; (· intro w'; go_simp; with_reducible rfl); (· simp only [Act.put, List.setIfInBounds_toArray, List.set_cons_zero, List.set_cons_succ, kw64, kw32]; rfl))
  (refine sD (v := ?_) (a' := ?_) Tryd.func7 rfl rfl (by rfl) rfl (by kernel_rfl) rfl (by rfl) ?_ ?_ ?_; rotate_left 2; (· intro w1 hg; exact HC1.out w1); (· simp only [Act.put, List.setIfInBounds_toArray, List.set_cons_zero, List.set_cons_succ, kw64, kw32]; rfl))
  (refine sD (v := ?_) (a' := ?_) Tryd.func7 rfl rfl (by rfl) rfl (by kernel_rfl) rfl (by rfl) ?_ ?_ ?_; rotate_left 2; (· intro w1 hg; exact HC2.out w1); (· simp only [Act.put, List.setIfInBounds_toArray, List.set_cons_zero, List.set_cons_succ, kw64, kw32]; rfl))
  (refine sP (v := ?_) (a' := ?_) rfl rfl (by rfl) ?_ ?_ ?_; rotate_left 2; (· intro w'; go_simp; with_reducible rfl); (· simp only [Act.put, List.setIfInBounds_toArray, List.set_cons_zero, List.set_cons_succ, kw64, kw32]; rfl))
  (refine sP (v := ?_) (a' := ?_) rfl rfl (by rfl) ?_ ?_ ?_; rotate_left 2; (· intro w'; go_simp; with_reducible rfl); (· simp only [Act.put, List.setIfInBounds_toArray, List.set_cons_zero, List.set_cons_succ, kw64, kw32]; rfl))
  (refine sP (v := ?_) (a' := ?_) rfl rfl (by rfl) ?_ ?_ ?_; rotate_left 2; (· intro w'; go_simp; with_reducible rfl); (· simp only [Act.put, List.setIfInBounds_toArray, List.set_cons_zero, List.set_cons_succ, kw64, kw32]; rfl))
  intro w1 hg
  replace HO := HO.up hg
  clear hg hkz
  go_wp2_with fail
  refine (HOp.out _).mono ?_
  rintro e w3 ⟨rfl, hb⟩
  replace HO := HO.up hb
  clear hb
  go_wp2_with fail
  refine (HM1.out _).mono ?_
  rintro e w3 ⟨rfl, hb⟩
  replace HO := HO.up hb
  clear hb
  go_wp2_with fail
  refine (HAl.out _ HO.below).mono ?_
  rintro e w3 ⟨rfl, hb⟩
  replace HO := HO.up hb
  clear hb
  go_wp2
  go_ret
  exact ⟨rfl, HO.below⟩
set_option maxHeartbeats 8000000 in
set_option maxRecDepth 100000 in
theorem LockOpens_y (k0 head0 locked0 : ByteArray) (W : World) (hz : locked0.size ≤ 140737488351232) (h2 : mayL (headB k0 40) (cutF head0 60) (((cutF locked0 140).size : Int) - 32) = true) (hq : tagB (kTF (headB k0 40)) (cutF head0 60) (bodyF (cutF locked0 140)) = cutF locked0 140) (hK : KeysAt W) :
    Calls Tryd.prog 3 #[.string k0, .string head0, .string locked0] W fun e W' => e = .returned (.bool true) ∧ Below W.heap.size W W' := by
  have hkz := headB_size k0 40
  have hz2 := cutF_size locked0 140 (by omega)
  have HC1 := Lib.hid (cut60 head0)
  have HC2 := Lib.hid (cut140 locked0)
  have HBB := Lib.hid (show headB k0 40 = k0.extract 0 (min k0.size 40) from rfl)
  generalize headB k0 40 = k at *
  generalize cutF head0 60 = head at *
  generalize cutF locked0 140 = locked at *
  have HAl := Lib.hid (fun w1 (hg : Gr W w1) => alive06 w1 (hK.up hg))
  have HM1 := Lib.hid (fun w1 => RMay_any k head ((locked.size : Int) - 32) w1)
  have hw1 : -9223372036854775808 ≤ (locked.size : Int) - 32 := by omega
  have hw2 : (locked.size : Int) - 32 ≤ 9223372036854775807 := by omega
  rw [h2] at HM1
  have HOp := Lib.hid (fun w1 (hg : Gr W w1) => Open_yes k head locked w1 h2 (hK.up hg))
  have HRO := Lib.hid (fun A1 c1 A2 c2 w1 (hk : KAt w1 A1 c1 A2 c2) => ROpen_any A1 c1 A2 c2 k head locked w1 hk h2)
  unfold opnV at HRO
  rw [if_pos hq] at HOp
  rw [if_pos hq] at HRO
  clear h2 hK hz2 hq
  unfold kV at *
  generalize xorF (kHF k) (kNF k) (bodyF locked) = xt at *
  have x3 : (xt.toList == xt.toList) = true := by simp
  have HO := Own.start W
  clear hz
  go_enter Tryd.func3, Tryd.ntmps3
  go_wp2_with fail
  refine kall [(0, true, some 10), (1, true, some 11), (2, true, some 12), (3, true, some 13), (4, true, some 14), (5, true, some 15), (7, true, some 17), (6, true, some 16), (8, true, some 18), (9, true, some 0), (10, true, some 1), (11, true, some 2)] (by kernel_rfl) rfl (by kernel_rfl) rfl (fun _ _ _ _ _ h => h) ?_
  (refine sP (v := ?_) (a' := ?_) rfl rfl (by rfl) ?_ ?_ ?_; rotate_left 2; (· intro w'; go_simp; with_reducible rfl); (· simp only [Act.put, List.setIfInBounds_toArray, List.set_cons_zero, List.set_cons_succ, kw64, kw32]; rfl))
  (refine sP (v := ?_) (a' := ?_) rfl rfl (by rfl) ?_ ?_ ?_; rotate_left 2; (· intro w'; go_simp; with_reducible rfl); (· simp only [Act.put, List.setIfInBounds_toArray, List.set_cons_zero, List.set_cons_succ, kw64, kw32]; rfl))
  (refine sP (v := ?_) (a' := ?_) rfl rfl (by rfl) ?_ ?_ ?_; rotate_left 2; (· intro w'; go_simp; with_reducible rfl); (· simp only [Act.put, List.setIfInBounds_toArray, List.set_cons_zero, List.set_cons_succ, kw64, kw32]; rfl))
  (refine sP (v := ?_) (a' := ?_) rfl rfl (by rfl) ?_ ?_ ?_; rotate_left 2; (· intro w'; go_simp; with_reducible rfl); (· simp only [Act.put, List.setIfInBounds_toArray, List.set_cons_zero, List.set_cons_succ, kw64, kw32]; rfl))
  (refine sP (v := .string k) (a' := ?_) rfl rfl (by rfl) ?_ ?_ ?_; rotate_left 1; (· intro w'; go_simp; rw [if_pos ⟨by omega, by omega⟩, HBB.out, ← show (min (k0.size : Int) 40).toNat = min k0.size 40 by omega]); (· simp only [Act.put, List.setIfInBounds_toArray, List.set_cons_zero, List.set_cons_succ, kw64, kw32]; rfl))
  (refine sP (v := ?_) (a' := ?_) rfl rfl (by rfl) ?_ ?_ ?_; rotate_left 2; (· intro w'; go_simp; with_reducible rfl); (· simp only [Act.put, List.setIfInBounds_toArray, List.set_cons_zero, List.set_cons_succ, kw64, kw32]; rfl))
  (refine sP (v := ?_) (a' := ?_) rfl rfl (by rfl) ?_ ?_ ?_; rotate_left 2; (· intro w'; go_simp; with_reducible rfl); (· simp only [Act.put, List.setIfInBounds_toArray, List.set_cons_zero, List.set_cons_succ, kw64, kw32]; rfl))
  (refine sD (v := ?_) (a' := ?_) Tryd.func7 rfl rfl (by rfl) rfl (by kernel_rfl) rfl (by rfl) ?_ ?_ ?_; rotate_left 2; (· intro w1 hg; exact HC1.out w1); (· simp only [Act.put, List.setIfInBounds_toArray, List.set_cons_zero, List.set_cons_succ, kw64, kw32]; rfl))
  (refine sD (v := ?_) (a' := ?_) Tryd.func7 rfl rfl (by rfl) rfl (by kernel_rfl) rfl (by rfl) ?_ ?_ ?_; rotate_left 2; (· intro w1 hg; exact HC2.out w1); (· simp only [Act.put, List.setIfInBounds_toArray, List.set_cons_zero, List.set_cons_succ, kw64, kw32]; rfl))
  (refine sP (v := ?_) (a' := ?_) rfl rfl (by rfl) ?_ ?_ ?_; rotate_left 2; (· intro w'; go_simp; with_reducible rfl); (· simp only [Act.put, List.setIfInBounds_toArray, List.set_cons_zero, List.set_cons_succ, kw64, kw32]; rfl))
  (refine sP (v := ?_) (a' := ?_) rfl rfl (by rfl) ?_ ?_ ?_; rotate_left 2; (· intro w'; go_simp; with_reducible rfl); (· simp only [Act.put, List.setIfInBounds_toArray, List.set_cons_zero, List.set_cons_succ, kw64, kw32]; rfl))
  (refine sP (v := ?_) (a' := ?_) rfl rfl (by rfl) ?_ ?_ ?_; rotate_left 2; (· intro w'; go_simp; with_reducible rfl); (· simp only [Act.put, List.setIfInBounds_toArray, List.set_cons_zero, List.set_cons_succ, kw64, kw32]; rfl))
  intro w1 hg
  replace HO := HO.up hg
  clear hg hkz
  go_wp2_with fail
  refine (HOp.out _ HO.below).mono ?_
  rintro e w3 ⟨rfl, hb⟩
  replace HO := HO.up hb
  clear hb
  go_wp2_with fail
  refine (HM1.out _).mono ?_
  rintro e w3 ⟨rfl, hb⟩
  replace HO := HO.up hb
  clear hb
  go_wp2_with fail
  refine (Numbers_any _).mono ?_
  rintro e w4 ⟨⟨A1, c1, A2, c2, rfl, hk⟩, hb⟩
  replace HO := HO.up hb
  clear hb
  unfold kV
  go_wp2_with fail
  refine (HRO.out _ _ _ _ _ hk).mono ?_
  rintro e w3 ⟨rfl, hb⟩
  replace HO := HO.up hb
  clear hb hk
  replace HO := HO.alloc' (.cells #[.string xt, .bool true] 29) rfl
  go_wp2_with fail
  revert HO
  generalize World.alloc w3 _ = w5
  generalize w3.heap.size = gr
  intro HO
  refine (HAl.out _ HO.below).mono ?_
  rintro e w3 ⟨rfl, hb⟩
  replace HO := HO.up hb
  clear hb
  have cc0 := HO.cell 0 rfl
  go_wp2
  go_ret
  exact ⟨rfl, HO.below⟩
set_option maxHeartbeats 8000000 in
set_option maxRecDepth 100000 in
theorem LockOpens_b (k0 head0 locked0 : ByteArray) (W : World) (hz : locked0.size ≤ 140737488351232) (h2 : mayL (headB k0 40) (cutF head0 60) (((cutF locked0 140).size : Int) - 32) = true) (hq : ¬ tagB (kTF (headB k0 40)) (cutF head0 60) (bodyF (cutF locked0 140)) = cutF locked0 140) (hK : KeysAt W) :
    Calls Tryd.prog 3 #[.string k0, .string head0, .string locked0] W fun e W' => e = .returned (.bool true) ∧ Below W.heap.size W W' := by
  have hkz := headB_size k0 40
  have hz2 := cutF_size locked0 140 (by omega)
  have HC1 := Lib.hid (cut60 head0)
  have HC2 := Lib.hid (cut140 locked0)
  have HBB := Lib.hid (show headB k0 40 = k0.extract 0 (min k0.size 40) from rfl)
  generalize headB k0 40 = k at *
  generalize cutF head0 60 = head at *
  generalize cutF locked0 140 = locked at *
  have HAl := Lib.hid (fun w1 (hg : Gr W w1) => alive06 w1 (hK.up hg))
  have HM1 := Lib.hid (fun w1 => RMay_any k head ((locked.size : Int) - 32) w1)
  have hw1 : -9223372036854775808 ≤ (locked.size : Int) - 32 := by omega
  have hw2 : (locked.size : Int) - 32 ≤ 9223372036854775807 := by omega
  rw [h2] at HM1
  have HOp := Lib.hid (fun w1 (hg : Gr W w1) => Open_yes k head locked w1 h2 (hK.up hg))
  have HRO := Lib.hid (fun A1 c1 A2 c2 w1 (hk : KAt w1 A1 c1 A2 c2) => ROpen_any A1 c1 A2 c2 k head locked w1 hk h2)
  unfold opnV at HRO
  rw [if_neg hq] at HOp
  rw [if_neg hq] at HRO
  clear h2 hK hz2 hq
  unfold kV at *
  have HO := Own.start W
  clear hz
  go_enter Tryd.func3, Tryd.ntmps3
  go_wp2_with fail
  refine kall [(0, true, some 10), (1, true, some 11), (2, true, some 12), (3, true, some 13), (4, true, some 14), (5, true, some 15), (7, true, some 17), (6, true, some 16), (8, true, some 18), (9, true, some 0), (10, true, some 1), (11, true, some 2)] (by kernel_rfl) rfl (by kernel_rfl) rfl (fun _ _ _ _ _ h => h) ?_
  (refine sP (v := ?_) (a' := ?_) rfl rfl (by rfl) ?_ ?_ ?_; rotate_left 2; (· intro w'; go_simp; with_reducible rfl); (· simp only [Act.put, List.setIfInBounds_toArray, List.set_cons_zero, List.set_cons_succ, kw64, kw32]; rfl))
  (refine sP (v := ?_) (a' := ?_) rfl rfl (by rfl) ?_ ?_ ?_; rotate_left 2; (· intro w'; go_simp; with_reducible rfl); (· simp only [Act.put, List.setIfInBounds_toArray, List.set_cons_zero, List.set_cons_succ, kw64, kw32]; rfl))
  (refine sP (v := ?_) (a' := ?_) rfl rfl (by rfl) ?_ ?_ ?_; rotate_left 2; (· intro w'; go_simp; with_reducible rfl); (· simp only [Act.put, List.setIfInBounds_toArray, List.set_cons_zero, List.set_cons_succ, kw64, kw32]; rfl))
  (refine sP (v := ?_) (a' := ?_) rfl rfl (by rfl) ?_ ?_ ?_; rotate_left 2; (· intro w'; go_simp; with_reducible rfl); (· simp only [Act.put, List.setIfInBounds_toArray, List.set_cons_zero, List.set_cons_succ, kw64, kw32]; rfl))
  (refine sP (v := .string k) (a' := ?_) rfl rfl (by rfl) ?_ ?_ ?_; rotate_left 1; (· intro w'; go_simp; rw [if_pos ⟨by omega, by omega⟩, HBB.out, ← show (min (k0.size : Int) 40).toNat = min k0.size 40 by omega]); (· simp only [Act.put, List.setIfInBounds_toArray, List.set_cons_zero, List.set_cons_succ, kw64, kw32]; rfl))
  (refine sP (v := ?_) (a' := ?_) rfl rfl (by rfl) ?_ ?_ ?_; rotate_left 2; (· intro w'; go_simp; with_reducible rfl); (· simp only [Act.put, List.setIfInBounds_toArray, List.set_cons_zero, List.set_cons_succ, kw64, kw32]; rfl))
  (refine sP (v := ?_) (a' := ?_) rfl rfl (by rfl) ?_ ?_ ?_; rotate_left 2; (· intro w'; go_simp; with_reducible rfl); (· simp only [Act.put, List.setIfInBounds_toArray, List.set_cons_zero, List.set_cons_succ, kw64, kw32]; rfl))
  (refine sD (v := ?_) (a' := ?_) Tryd.func7 rfl rfl (by rfl) rfl (by kernel_rfl) rfl (by rfl) ?_ ?_ ?_; rotate_left 2; (· intro w1 hg; exact HC1.out w1); (· simp only [Act.put, List.setIfInBounds_toArray, List.set_cons_zero, List.set_cons_succ, kw64, kw32]; rfl))
  (refine sD (v := ?_) (a' := ?_) Tryd.func7 rfl rfl (by rfl) rfl (by kernel_rfl) rfl (by rfl) ?_ ?_ ?_; rotate_left 2; (· intro w1 hg; exact HC2.out w1); (· simp only [Act.put, List.setIfInBounds_toArray, List.set_cons_zero, List.set_cons_succ, kw64, kw32]; rfl))
  (refine sP (v := ?_) (a' := ?_) rfl rfl (by rfl) ?_ ?_ ?_; rotate_left 2; (· intro w'; go_simp; with_reducible rfl); (· simp only [Act.put, List.setIfInBounds_toArray, List.set_cons_zero, List.set_cons_succ, kw64, kw32]; rfl))
  (refine sP (v := ?_) (a' := ?_) rfl rfl (by rfl) ?_ ?_ ?_; rotate_left 2; (· intro w'; go_simp; with_reducible rfl); (· simp only [Act.put, List.setIfInBounds_toArray, List.set_cons_zero, List.set_cons_succ, kw64, kw32]; rfl))
  (refine sP (v := ?_) (a' := ?_) rfl rfl (by rfl) ?_ ?_ ?_; rotate_left 2; (· intro w'; go_simp; with_reducible rfl); (· simp only [Act.put, List.setIfInBounds_toArray, List.set_cons_zero, List.set_cons_succ, kw64, kw32]; rfl))
  intro w1 hg
  replace HO := HO.up hg
  clear hg hkz
  go_wp2_with fail
  refine (HOp.out _ HO.below).mono ?_
  rintro e w3 ⟨rfl, hb⟩
  replace HO := HO.up hb
  clear hb
  go_wp2_with fail
  refine (HM1.out _).mono ?_
  rintro e w3 ⟨rfl, hb⟩
  replace HO := HO.up hb
  clear hb
  go_wp2_with fail
  refine (Numbers_any _).mono ?_
  rintro e w4 ⟨⟨A1, c1, A2, c2, rfl, hk⟩, hb⟩
  replace HO := HO.up hb
  clear hb
  unfold kV
  go_wp2_with fail
  refine (HRO.out _ _ _ _ _ hk).mono ?_
  rintro e w3 ⟨rfl, hb⟩
  replace HO := HO.up hb
  clear hb hk
  replace HO := HO.alloc' (.cells #[.string ⟨#[]⟩, .bool false] 29) rfl
  go_wp2_with fail
  revert HO
  generalize World.alloc w3 _ = w5
  generalize w3.heap.size = gr
  intro HO
  refine (HAl.out _ HO.below).mono ?_
  rintro e w3 ⟨rfl, hb⟩
  replace HO := HO.up hb
  clear hb
  have cc0 := HO.cell 0 rfl
  go_wp2
  go_ret
  exact ⟨rfl, HO.below⟩
theorem LockOpens_walk (k0 head0 locked0 : ByteArray) (W : World) (hz : locked0.size ≤ 140737488351232) (hK : KeysAt W) :
    Calls Tryd.prog 3 #[.string k0, .string head0, .string locked0] W fun e W' => e = .returned (.bool true) ∧ Below W.heap.size W W' := by
  cases h2 : mayL (headB k0 40) (cutF head0 60) (((cutF locked0 140).size : Int) - 32)
  · exact LockOpens_m k0 head0 locked0 W hz h2 hK
  · by_cases hq : tagB (kTF (headB k0 40)) (cutF head0 60) (bodyF (cutF locked0 140)) = cutF locked0 140
    · exact LockOpens_y k0 head0 locked0 W hz h2 hq hK
    · exact LockOpens_b k0 head0 locked0 W hz h2 hq hK
end Go.Proofs.YtpbaolijacimjaaDoor

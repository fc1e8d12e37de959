import Derived.Test.YtpbaolijacimjaaDoorDl
set_option linter.unusedSimpArgs false
/- LAYER 6: LockTells. -/
namespace Go.Proofs.YtpbaolijacimjaaDoor
open Go.RowKit Go.Proofs.YtpbaolijacimjaaDoorW.PrintWords
attribute [local irreducible] Calls mixF
set_option maxHeartbeats 8000000 in
set_option maxRecDepth 100000 in
theorem LockTells_yy (k0 head0 text0 : ByteArray) (W : World) (h1 : (headB k0 40).size = 32) (h2 : mayL (headB k0 40) (cutF head0 60) ((cutF text0 100).size : Int) = true) (hK : KeysAt W) :
    Calls Tryd.prog 4 #[.string k0, .string head0, .string text0] W fun e W' => e = .returned (.bool true) ∧ Below W.heap.size W W' := by
  have hkz := headB_size k0 40
  have HC1 := Lib.hid (cut60 head0)
  have HC2 := Lib.hid (cut100 text0)
  have HBB := Lib.hid (show headB k0 40 = k0.extract 0 (min k0.size 40) from rfl)
  generalize headB k0 40 = k at *
  generalize cutF head0 60 = head at *
  generalize cutF text0 100 = text at *
  have HAl := Lib.hid (fun w1 (hg : Gr W w1) => alive06 w1 (hK.up hg))
  have HM0 := Lib.hid (fun w1 => RMay_any k ⟨#[]⟩ 0 w1)
  have HM1 := Lib.hid (fun w1 => RMay_any k head (text.size : Int) w1)
  have hm0 : mayL k ⟨#[]⟩ 0 = true := (mayL_iff _ _ _).2 ⟨h1, by decide, by decide, by decide⟩
  obtain ⟨_, q2, q3, q4⟩ := (mayL_iff _ _ _).1 h2
  rw [hm0] at HM0
  rw [h2] at HM1
  have HKy := Lib.hid (fun w1 (hg : Gr W w1) => Keys_yes k w1 h1 (hK.up hg))
  have HL := Lib.hid (fun w1 (hg : Gr W w1) => Lock_yes k head text w1 h2 (hK.up hg))
  have HA := Lib.hid (fun w1 (hg : Gr W w1) => Again_yes k head text w1 h2 (hK.up hg))
  have HRK := Lib.hid (fun A1 c1 A2 c2 w1 (hk : KAt w1 A1 c1 A2 c2) => RKeys_any A1 c1 A2 c2 k w1 hk (by omega))
  have HRL := Lib.hid (fun A1 c1 A2 c2 w1 (hk : KAt w1 A1 c1 A2 c2) => RLock_any A1 c1 A2 c2 k head text w1 hk (by omega) q2 (by omega))
  have HRA := Lib.hid (fun A1 c1 A2 c2 w1 (hk : KAt w1 A1 c1 A2 c2) => RAgain_any A1 c1 A2 c2 k head text w1 hk (by omega) q2 (by omega))
  clear h1 h2 q2 q3 q4 hm0 hK
  unfold kV at *
  generalize lockF k head text = lk at *
  generalize tagB k head text = tg at *
  generalize kHF k = kh at *
  generalize kTF k = kt at *
  generalize kNF k = kn at *
  have x0 : (kh.toList == kh.toList) = true := by simp
  have x1 : (kt.toList == kt.toList) = true := by simp
  have x2 : (kn.toList == kn.toList) = true := by simp
  have x3 : (lk.toList == lk.toList) = true := by simp
  have x4 : (tg.toList == tg.toList) = true := by simp
  obtain ⟨v, hv⟩ : ∃ v, Value.agg #[.string kh, .string kt, .string kn] = v := ⟨_, rfl⟩
  rw [hv] at HRK
  have HV := Lib.hid hv
  clear hv
  have HO := Own.start W
  go_enter Tryd.func4, Tryd.ntmps4
  go_wp2_with fail
  refine kall [(0, true, some 17), (1, true, some 18), (2, true, some 19), (3, true, some 20), (4, true, some 21), (5, true, some 22), (7, true, some 24), (6, true, some 23), (8, true, some 25), (9, true, some 0), (10, true, some 1), (11, true, some 2)] (by kernel_rfl) rfl (by kernel_rfl) rfl (fun _ _ _ _ _ h => h) ?_
  (refine sP (v := ?_) (a' := ?_) rfl rfl (by rfl) ?_ ?_ ?_; rotate_left 2; (· intro w'; go_simp; with_reducible rfl); (· simp only [Act.put, List.setIfInBounds_toArray, List.set_cons_zero, List.set_cons_succ, kw64, kw32]; rfl))
  (refine sP (v := ?_) (a' := ?_) rfl rfl (by rfl) ?_ ?_ ?_; rotate_left 2; (· intro w'; go_simp; with_reducible rfl); (· simp only [Act.put, List.setIfInBounds_toArray, List.set_cons_zero, List.set_cons_succ, kw64, kw32]; rfl))
  (refine sP (v := ?_) (a' := ?_) rfl rfl (by rfl) ?_ ?_ ?_; rotate_left 2; (· intro w'; go_simp; with_reducible rfl); (· simp only [Act.put, List.setIfInBounds_toArray, List.set_cons_zero, List.set_cons_succ, kw64, kw32]; rfl))
  (refine sP (v := ?_) (a' := ?_) rfl rfl (by rfl) ?_ ?_ ?_; rotate_left 2; (· intro w'; go_simp; with_reducible rfl); (· simp only [Act.put, List.setIfInBounds_toArray, List.set_cons_zero, List.set_cons_succ, kw64, kw32]; rfl))
  (refine sP (v := .string k) (a' := ?_) rfl rfl (by rfl) ?_ ?_ ?_; rotate_left 1; (· intro w'; go_simp; rw [if_pos ⟨by omega, by omega⟩, HBB.out, ← show (min (k0.size : Int) 40).toNat = min k0.size 40 by omega]); (· simp only [Act.put, List.setIfInBounds_toArray, List.set_cons_zero, List.set_cons_succ, kw64, kw32]; rfl))
  (refine sP (v := ?_) (a' := ?_) rfl rfl (by rfl) ?_ ?_ ?_; rotate_left 2; (· intro w'; go_simp; with_reducible rfl); (· simp only [Act.put, List.setIfInBounds_toArray, List.set_cons_zero, List.set_cons_succ, kw64, kw32]; rfl))
  (refine sP (v := ?_) (a' := ?_) rfl rfl (by rfl) ?_ ?_ ?_; rotate_left 2; (· intro w'; go_simp; with_reducible rfl); (· simp only [Act.put, List.setIfInBounds_toArray, List.set_cons_zero, List.set_cons_succ, kw64, kw32]; rfl))
  (refine sD (v := ?_) (a' := ?_) Tryd.func7 rfl rfl (by rfl) rfl (by kernel_rfl) rfl (by rfl) ?_ ?_ ?_; rotate_left 2; (· intro w1 hg; exact HC1.out w1); (· simp only [Act.put, List.setIfInBounds_toArray, List.set_cons_zero, List.set_cons_succ, kw64, kw32]; rfl))
  (refine sD (v := ?_) (a' := ?_) Tryd.func7 rfl rfl (by rfl) rfl (by kernel_rfl) rfl (by rfl) ?_ ?_ ?_; rotate_left 2; (· intro w1 hg; exact HC2.out w1); (· simp only [Act.put, List.setIfInBounds_toArray, List.set_cons_zero, List.set_cons_succ, kw64, kw32]; rfl))
  (refine sP (v := ?_) (a' := ?_) rfl rfl (by rfl) ?_ ?_ ?_; rotate_left 2; (· intro w'; go_simp; with_reducible rfl); (· simp only [Act.put, List.setIfInBounds_toArray, List.set_cons_zero, List.set_cons_succ, kw64, kw32]; rfl))
  (refine sP (v := ?_) (a' := ?_) rfl rfl (by rfl) ?_ ?_ ?_; rotate_left 2; (· intro w'; go_simp; with_reducible rfl); (· simp only [Act.put, List.setIfInBounds_toArray, List.set_cons_zero, List.set_cons_succ, kw64, kw32]; rfl))
  (refine sP (v := ?_) (a' := ?_) rfl rfl (by rfl) ?_ ?_ ?_; rotate_left 2; (· intro w'; go_simp; with_reducible rfl); (· simp only [Act.put, List.setIfInBounds_toArray, List.set_cons_zero, List.set_cons_succ, kw64, kw32]; rfl))
  intro w1 hg
  replace HO := HO.up hg
  clear hg hkz
  go_wp2_with fail
  refine (HKy.out _ HO.below).mono ?_
  rintro e w3 ⟨rfl, hb⟩
  replace HO := HO.up hb
  clear hb
  go_wp2_with fail
  refine (HL.out _ HO.below).mono ?_
  rintro e w3 ⟨rfl, hb⟩
  replace HO := HO.up hb
  clear hb
  go_wp2_with fail
  refine (HA.out _ HO.below).mono ?_
  rintro e w3 ⟨rfl, hb⟩
  replace HO := HO.up hb
  clear hb
  go_wp2_with fail
  refine (Numbers_any _).mono ?_
  rintro e w4 ⟨⟨A1, c1, A2, c2, rfl, hk⟩, hb⟩
  replace HO := HO.up hb
  clear hb
  unfold kV
  replace HO := HO.alloc' (.cells #[.slice A1 64 c1, .slice A2 8 c2] 33) rfl
  have HKK := Lib.hid (hk.up (below_alloc (Below.refl _ _) (.cells #[.slice A1 64 c1, .slice A2 8 c2] 33)))
  clear hk
  have cc0 := HO.cell 0 rfl
  go_wp2_with fail
  clear cc0
  revert HO HKK
  generalize World.alloc w4 _ = w5
  generalize w4.heap.size = gk
  intro HO HKK
  refine (HM0.out _).mono ?_
  rintro e w3 ⟨rfl, hb⟩
  replace HO := HO.up hb
  replace HKK := Lib.hid (HKK.out.up hb)
  clear hb
  have cc0 := HO.cell 0 rfl
  go_wp2_with fail
  clear cc0
  refine (HRK.out _ _ _ _ _ HKK.out).mono ?_
  rintro e w3 ⟨rfl, hb⟩
  replace HO := HO.up hb
  replace HKK := Lib.hid (HKK.out.up hb)
  clear hb
  go_wp2_with fail
  rw [← HV.out, eqGT6, Result.andThen_ok, eqT6N, x0, x1, x2, Result.andThen_ok]
  go_wp2_with fail
  refine (HAl.out _ HO.below).mono ?_
  rintro e w3 ⟨rfl, hb⟩
  replace HO := HO.up hb
  replace HKK := Lib.hid (HKK.out.up hb)
  clear hb
  go_wp2_with fail
  refine (HM1.out _).mono ?_
  rintro e w3 ⟨rfl, hb⟩
  replace HO := HO.up hb
  replace HKK := Lib.hid (HKK.out.up hb)
  clear hb
  have cc0 := HO.cell 0 rfl
  go_wp2_with fail
  clear cc0
  refine (HRL.out _ _ _ _ _ HKK.out).mono ?_
  rintro e w3 ⟨rfl, hb⟩
  replace HO := HO.up hb
  replace HKK := Lib.hid (HKK.out.up hb)
  clear hb
  have cc0 := HO.cell 0 rfl
  go_wp2_with fail
  clear cc0
  refine (HRA.out _ _ _ _ _ HKK.out).mono ?_
  rintro e w3 ⟨rfl, hb⟩
  replace HO := HO.up hb
  clear hb
  go_wp2
  go_ret
  exact ⟨rfl, HO.below⟩
set_option maxHeartbeats 8000000 in
set_option maxRecDepth 100000 in
theorem LockTells_yn (k0 head0 text0 : ByteArray) (W : World) (h1 : (headB k0 40).size = 32) (h2 : mayL (headB k0 40) (cutF head0 60) ((cutF text0 100).size : Int) = false) (hK : KeysAt W) :
    Calls Tryd.prog 4 #[.string k0, .string head0, .string text0] W fun e W' => e = .returned (.bool true) ∧ Below W.heap.size W W' := by
  have hkz := headB_size k0 40
  have HC1 := Lib.hid (cut60 head0)
  have HC2 := Lib.hid (cut100 text0)
  have HBB := Lib.hid (show headB k0 40 = k0.extract 0 (min k0.size 40) from rfl)
  generalize headB k0 40 = k at *
  generalize cutF head0 60 = head at *
  generalize cutF text0 100 = text at *
  have HAl := Lib.hid (fun w1 (hg : Gr W w1) => alive06 w1 (hK.up hg))
  have HM0 := Lib.hid (fun w1 => RMay_any k ⟨#[]⟩ 0 w1)
  have HM1 := Lib.hid (fun w1 => RMay_any k head (text.size : Int) w1)
  have hm0 : mayL k ⟨#[]⟩ 0 = true := (mayL_iff _ _ _).2 ⟨h1, by decide, by decide, by decide⟩
  rw [hm0] at HM0
  rw [h2] at HM1
  have HKy := Lib.hid (fun w1 (hg : Gr W w1) => Keys_yes k w1 h1 (hK.up hg))
  have HL := Lib.hid (fun w1 => Lock_no k head text w1 h2)
  have HA := Lib.hid (fun w1 => Again_no k head text w1 h2)
  have HRK := Lib.hid (fun A1 c1 A2 c2 w1 (hk : KAt w1 A1 c1 A2 c2) => RKeys_any A1 c1 A2 c2 k w1 hk (by omega))
  have hee : (⟨#[]⟩ : ByteArray) ++ ⟨#[]⟩ = ⟨#[]⟩ := rfl
  clear h1 h2 hm0 hK
  unfold kV at *
  generalize kHF k = kh at *
  generalize kTF k = kt at *
  generalize kNF k = kn at *
  have x0 : (kh.toList == kh.toList) = true := by simp
  have x1 : (kt.toList == kt.toList) = true := by simp
  have x2 : (kn.toList == kn.toList) = true := by simp
  obtain ⟨v, hv⟩ : ∃ v, Value.agg #[.string kh, .string kt, .string kn] = v := ⟨_, rfl⟩
  rw [hv] at HRK
  have HV := Lib.hid hv
  clear hv
  have HO := Own.start W
  go_enter Tryd.func4, Tryd.ntmps4
  go_wp2_with fail
  refine kall [(0, true, some 17), (1, true, some 18), (2, true, some 19), (3, true, some 20), (4, true, some 21), (5, true, some 22), (7, true, some 24), (6, true, some 23), (8, true, some 25), (9, true, some 0), (10, true, some 1), (11, true, some 2)] (by kernel_rfl) rfl (by kernel_rfl) rfl (fun _ _ _ _ _ h => h) ?_
  (refine sP (v := ?_) (a' := ?_) rfl rfl (by rfl) ?_ ?_ ?_; rotate_left 2; (· intro w'; go_simp; with_reducible rfl); (· simp only [Act.put, List.setIfInBounds_toArray, List.set_cons_zero, List.set_cons_succ, kw64, kw32]; rfl))
  (refine sP (v := ?_) (a' := ?_) rfl rfl (by rfl) ?_ ?_ ?_; rotate_left 2; (· intro w'; go_simp; with_reducible rfl); (· simp only [Act.put, List.setIfInBounds_toArray, List.set_cons_zero, List.set_cons_succ, kw64, kw32]; rfl))
  (refine sP (v := ?_) (a' := ?_) rfl rfl (by rfl) ?_ ?_ ?_; rotate_left 2; (· intro w'; go_simp; with_reducible rfl); (· simp only [Act.put, List.setIfInBounds_toArray, List.set_cons_zero, List.set_cons_succ, kw64, kw32]; rfl))
  (refine sP (v := ?_) (a' := ?_) rfl rfl (by rfl) ?_ ?_ ?_; rotate_left 2; (· intro w'; go_simp; with_reducible rfl); (· simp only [Act.put, List.setIfInBounds_toArray, List.set_cons_zero, List.set_cons_succ, kw64, kw32]; rfl))
  (refine sP (v := .string k) (a' := ?_) rfl rfl (by rfl) ?_ ?_ ?_; rotate_left 1; (· intro w'; go_simp; rw [if_pos ⟨by omega, by omega⟩, HBB.out, ← show (min (k0.size : Int) 40).toNat = min k0.size 40 by omega]); (· simp only [Act.put, List.setIfInBounds_toArray, List.set_cons_zero, List.set_cons_succ, kw64, kw32]; rfl))
  (refine sP (v := ?_) (a' := ?_) rfl rfl (by rfl) ?_ ?_ ?_; rotate_left 2; (· intro w'; go_simp; with_reducible rfl); (· simp only [Act.put, List.setIfInBounds_toArray, List.set_cons_zero, List.set_cons_succ, kw64, kw32]; rfl))
  (refine sP (v := ?_) (a' := ?_) rfl rfl (by rfl) ?_ ?_ ?_; rotate_left 2; (· intro w'; go_simp; with_reducible rfl); (· simp only [Act.put, List.setIfInBounds_toArray, List.set_cons_zero, List.set_cons_succ, kw64, kw32]; rfl))
  (refine sD (v := ?_) (a' := ?_) Tryd.func7 rfl rfl (by rfl) rfl (by kernel_rfl) rfl (by rfl) ?_ ?_ ?_; rotate_left 2; (· intro w1 hg; exact HC1.out w1); (· simp only [Act.put, List.setIfInBounds_toArray, List.set_cons_zero, List.set_cons_succ, kw64, kw32]; rfl))
  (refine sD (v := ?_) (a' := ?_) Tryd.func7 rfl rfl (by rfl) rfl (by kernel_rfl) rfl (by rfl) ?_ ?_ ?_; rotate_left 2; (· intro w1 hg; exact HC2.out w1); (· simp only [Act.put, List.setIfInBounds_toArray, List.set_cons_zero, List.set_cons_succ, kw64, kw32]; rfl))
  (refine sP (v := ?_) (a' := ?_) rfl rfl (by rfl) ?_ ?_ ?_; rotate_left 2; (· intro w'; go_simp; with_reducible rfl); (· simp only [Act.put, List.setIfInBounds_toArray, List.set_cons_zero, List.set_cons_succ, kw64, kw32]; rfl))
  (refine sP (v := ?_) (a' := ?_) rfl rfl (by rfl) ?_ ?_ ?_; rotate_left 2; (· intro w'; go_simp; with_reducible rfl); (· simp only [Act.put, List.setIfInBounds_toArray, List.set_cons_zero, List.set_cons_succ, kw64, kw32]; rfl))
  (refine sP (v := ?_) (a' := ?_) rfl rfl (by rfl) ?_ ?_ ?_; rotate_left 2; (· intro w'; go_simp; with_reducible rfl); (· simp only [Act.put, List.setIfInBounds_toArray, List.set_cons_zero, List.set_cons_succ, kw64, kw32]; rfl))
  intro w1 hg
  replace HO := HO.up hg
  clear hg hkz
  go_wp2_with fail
  refine (HKy.out _ HO.below).mono ?_
  rintro e w3 ⟨rfl, hb⟩
  replace HO := HO.up hb
  clear hb
  go_wp2_with fail
  refine (HL.out _).mono ?_
  rintro e w3 ⟨rfl, hb⟩
  replace HO := HO.up hb
  clear hb
  go_wp2_with fail
  refine (HA.out _).mono ?_
  rintro e w3 ⟨rfl, hb⟩
  replace HO := HO.up hb
  clear hb
  go_wp2_with fail
  refine (Numbers_any _).mono ?_
  rintro e w4 ⟨⟨A1, c1, A2, c2, rfl, hk⟩, hb⟩
  replace HO := HO.up hb
  clear hb
  unfold kV
  replace HO := HO.alloc' (.cells #[.slice A1 64 c1, .slice A2 8 c2] 33) rfl
  have HKK := Lib.hid (hk.up (below_alloc (Below.refl _ _) (.cells #[.slice A1 64 c1, .slice A2 8 c2] 33)))
  clear hk
  have cc0 := HO.cell 0 rfl
  go_wp2_with fail
  clear cc0
  revert HO HKK
  generalize World.alloc w4 _ = w5
  generalize w4.heap.size = gk
  intro HO HKK
  refine (HM0.out _).mono ?_
  rintro e w3 ⟨rfl, hb⟩
  replace HO := HO.up hb
  replace HKK := Lib.hid (HKK.out.up hb)
  clear hb
  have cc0 := HO.cell 0 rfl
  go_wp2_with fail
  clear cc0
  refine (HRK.out _ _ _ _ _ HKK.out).mono ?_
  rintro e w3 ⟨rfl, hb⟩
  replace HO := HO.up hb
  replace HKK := Lib.hid (HKK.out.up hb)
  clear hb
  go_wp2_with fail
  rw [← HV.out, eqGT6, Result.andThen_ok, eqT6N, x0, x1, x2, Result.andThen_ok]
  go_wp2_with fail
  refine (HAl.out _ HO.below).mono ?_
  rintro e w3 ⟨rfl, hb⟩
  replace HO := HO.up hb
  clear hb
  go_wp2_with fail
  refine (HM1.out _).mono ?_
  rintro e w3 ⟨rfl, hb⟩
  replace HO := HO.up hb
  clear hb
  go_wp2
  go_ret
  exact ⟨rfl, HO.below⟩
set_option maxHeartbeats 8000000 in
set_option maxRecDepth 100000 in
theorem LockTells_n (k0 head0 text0 : ByteArray) (W : World) (h1 : ¬ (headB k0 40).size = 32) (hK : KeysAt W) :
    Calls Tryd.prog 4 #[.string k0, .string head0, .string text0] W fun e W' => e = .returned (.bool true) ∧ Below W.heap.size W W' := by
  have hkz := headB_size k0 40
  have HC1 := Lib.hid (cut60 head0)
  have HC2 := Lib.hid (cut100 text0)
  have HBB := Lib.hid (show headB k0 40 = k0.extract 0 (min k0.size 40) from rfl)
  generalize headB k0 40 = k at *
  generalize cutF head0 60 = head at *
  generalize cutF text0 100 = text at *
  have HAl := Lib.hid (fun w1 (hg : Gr W w1) => alive06 w1 (hK.up hg))
  have HM0 := Lib.hid (fun w1 => RMay_any k ⟨#[]⟩ 0 w1)
  have HM1 := Lib.hid (fun w1 => RMay_any k head (text.size : Int) w1)
  have hm0 : mayL k ⟨#[]⟩ 0 = false := Bool.eq_false_iff.2 (fun h => h1 ((mayL_iff _ _ _).1 h).1)
  have h2 : mayL k head (text.size : Int) = false := Bool.eq_false_iff.2 (fun h => h1 ((mayL_iff _ _ _).1 h).1)
  rw [hm0] at HM0
  rw [h2] at HM1
  have HKy := Lib.hid (fun w1 => Keys_no k w1 hm0)
  have HL := Lib.hid (fun w1 => Lock_no k head text w1 h2)
  have HA := Lib.hid (fun w1 => Again_no k head text w1 h2)
  have hee : (⟨#[]⟩ : ByteArray) ++ ⟨#[]⟩ = ⟨#[]⟩ := rfl
  clear h1 h2 hm0 hK
  have HO := Own.start W
  go_enter Tryd.func4, Tryd.ntmps4
  go_wp2_with fail
  refine kall [(0, true, some 17), (1, true, some 18), (2, true, some 19), (3, true, some 20), (4, true, some 21), (5, true, some 22), (7, true, some 24), (6, true, some 23), (8, true, some 25), (9, true, some 0), (10, true, some 1), (11, true, some 2)] (by kernel_rfl) rfl (by kernel_rfl) rfl (fun _ _ _ _ _ h => h) ?_
  (refine sP (v := ?_) (a' := ?_) rfl rfl (by rfl) ?_ ?_ ?_; rotate_left 2; (· intro w'; go_simp; with_reducible rfl); (· simp only [Act.put, List.setIfInBounds_toArray, List.set_cons_zero, List.set_cons_succ, kw64, kw32]; rfl))
  (refine sP (v := ?_) (a' := ?_) rfl rfl (by rfl) ?_ ?_ ?_; rotate_left 2; (· intro w'; go_simp; with_reducible rfl); (· simp only [Act.put, List.setIfInBounds_toArray, List.set_cons_zero, List.set_cons_succ, kw64, kw32]; rfl))
  (refine sP (v := ?_) (a' := ?_) rfl rfl (by rfl) ?_ ?_ ?_; rotate_left 2; (· intro w'; go_simp; with_reducible rfl); (· simp only [Act.put, List.setIfInBounds_toArray, List.set_cons_zero, List.set_cons_succ, kw64, kw32]; rfl))
  (refine sP (v := ?_) (a' := ?_) rfl rfl (by rfl) ?_ ?_ ?_; rotate_left 2; (· intro w'; go_simp; with_reducible rfl); (· simp only [Act.put, List.setIfInBounds_toArray, List.set_cons_zero, List.set_cons_succ, kw64, kw32]; rfl))
  (refine sP (v := .string k) (a' := ?_) rfl rfl (by rfl) ?_ ?_ ?_; rotate_left 1; (· intro w'; go_simp; rw [if_pos ⟨by omega, by omega⟩, HBB.out, ← show (min (k0.size : Int) 40).toNat = min k0.size 40 by omega]); (· simp only [Act.put, List.setIfInBounds_toArray, List.set_cons_zero, List.set_cons_succ, kw64, kw32]; rfl))
  (refine sP (v := ?_) (a' := ?_) rfl rfl (by rfl) ?_ ?_ ?_; rotate_left 2; (· intro w'; go_simp; with_reducible rfl); (· simp only [Act.put, List.setIfInBounds_toArray, List.set_cons_zero, List.set_cons_succ, kw64, kw32]; rfl))
  (refine sP (v := ?_) (a' := ?_) rfl rfl (by rfl) ?_ ?_ ?_; rotate_left 2; (· intro w'; go_simp; with_reducible rfl); (· simp only [Act.put, List.setIfInBounds_toArray, List.set_cons_zero, List.set_cons_succ, kw64, kw32]; rfl))
  (refine sD (v := ?_) (a' := ?_) Tryd.func7 rfl rfl (by rfl) rfl (by kernel_rfl) rfl (by rfl) ?_ ?_ ?_; rotate_left 2; (· intro w1 hg; exact HC1.out w1); (· simp only [Act.put, List.setIfInBounds_toArray, List.set_cons_zero, List.set_cons_succ, kw64, kw32]; rfl))
  (refine sD (v := ?_) (a' := ?_) Tryd.func7 rfl rfl (by rfl) rfl (by kernel_rfl) rfl (by rfl) ?_ ?_ ?_; rotate_left 2; (· intro w1 hg; exact HC2.out w1); (· simp only [Act.put, List.setIfInBounds_toArray, List.set_cons_zero, List.set_cons_succ, kw64, kw32]; rfl))
  (refine sP (v := ?_) (a' := ?_) rfl rfl (by rfl) ?_ ?_ ?_; rotate_left 2; (· intro w'; go_simp; with_reducible rfl); (· simp only [Act.put, List.setIfInBounds_toArray, List.set_cons_zero, List.set_cons_succ, kw64, kw32]; rfl))
  (refine sP (v := ?_) (a' := ?_) rfl rfl (by rfl) ?_ ?_ ?_; rotate_left 2; (· intro w'; go_simp; with_reducible rfl); (· simp only [Act.put, List.setIfInBounds_toArray, List.set_cons_zero, List.set_cons_succ, kw64, kw32]; rfl))
  (refine sP (v := ?_) (a' := ?_) rfl rfl (by rfl) ?_ ?_ ?_; rotate_left 2; (· intro w'; go_simp; with_reducible rfl); (· simp only [Act.put, List.setIfInBounds_toArray, List.set_cons_zero, List.set_cons_succ, kw64, kw32]; rfl))
  intro w1 hg
  replace HO := HO.up hg
  clear hg hkz
  go_wp2_with fail
  refine (HKy.out _).mono ?_
  rintro e w3 ⟨rfl, hb⟩
  replace HO := HO.up hb
  clear hb
  go_wp2_with fail
  refine (HL.out _).mono ?_
  rintro e w3 ⟨rfl, hb⟩
  replace HO := HO.up hb
  clear hb
  go_wp2_with fail
  refine (HA.out _).mono ?_
  rintro e w3 ⟨rfl, hb⟩
  replace HO := HO.up hb
  clear hb
  go_wp2_with fail
  refine (Numbers_any _).mono ?_
  rintro e w4 ⟨⟨A1, c1, A2, c2, rfl, hk⟩, hb⟩
  replace HO := HO.up hb
  clear hb
  unfold kV
  replace HO := HO.alloc' (.cells #[.slice A1 64 c1, .slice A2 8 c2] 33) rfl
  have HKK := Lib.hid (hk.up (below_alloc (Below.refl _ _) (.cells #[.slice A1 64 c1, .slice A2 8 c2] 33)))
  clear hk
  have cc0 := HO.cell 0 rfl
  go_wp2_with fail
  clear cc0
  revert HO HKK
  generalize World.alloc w4 _ = w5
  generalize w4.heap.size = gk
  intro HO HKK
  refine (HM0.out _).mono ?_
  rintro e w3 ⟨rfl, hb⟩
  replace HO := HO.up hb
  clear hb
  go_wp2_with fail
  refine (HAl.out _ HO.below).mono ?_
  rintro e w3 ⟨rfl, hb⟩
  replace HO := HO.up hb
  clear hb
  go_wp2_with fail
  refine (HM1.out _).mono ?_
  rintro e w3 ⟨rfl, hb⟩
  replace HO := HO.up hb
  clear hb
  go_wp2
  go_ret
  exact ⟨rfl, HO.below⟩
theorem LockTells_walk (k0 head0 text0 : ByteArray) (W : World) (hK : KeysAt W) :
    Calls Tryd.prog 4 #[.string k0, .string head0, .string text0] W fun e W' => e = .returned (.bool true) ∧ Below W.heap.size W W' := by
  by_cases h1 : (headB k0 40).size = 32
  · cases h2 : mayL (headB k0 40) (cutF head0 60) ((cutF text0 100).size : Int)
    · exact LockTells_yn k0 head0 text0 W h1 h2 hK
    · exact LockTells_yy k0 head0 text0 W h1 h2 hK
  · exact LockTells_n k0 head0 text0 W h1 hK
end Go.Proofs.YtpbaolijacimjaaDoor

import Derived.Test.YtpafocjmheemjaaDoorPDigestSumsx0
namespace Go.Proofs.YtpafocjmheemjaaDoor.PDigestSums
open Go.RowKit Go.Proofs.YtpafocjmheemjaaDoorW.PrintWords Go.Proofs.YtpafocjmheemjaaDoorW.PrintLast Go.Proofs.YtpafocjmheemjaaDoorW.PrintMore
attribute [local go_sem] max2_int min2_int max_two min_two max_three min_three max_four min_four   -- for this text's walks alone
set_option linter.unusedVariables false
set_option linter.unusedSimpArgs false

/-! ### demurralref03_ror: function 90 -/
def demurralref03_ror.f (a0 : Int) (a1 : Int) : Option (Int) := if 0 ≤ a1 then (some (Go.bits .or .u32 (shr .u32 a0 a1) (shl .u32 a0 ((32 - a1) % 4294967296)))) else (none)
set_option maxHeartbeats 8000000 in
set_option maxRecDepth 100000 in
theorem demurralref03_ror.calls (a0 : Int) (a1 : Int) (r : Int) (w : World) (h : demurralref03_ror.f a0 a1 = some r) :
    Calls Tryd.prog 90 #[.int .u32 a0, .int .u32 a1] w fun e w' => e = .returned (.int .u32 r) ∧ Drawn0 w w' := by
  have H : (if 0 ≤ a1 then (some (Go.bits .or .u32 (shr .u32 a0 a1) (shl .u32 a0 ((32 - a1) % 4294967296)))) else (none)) = some r := h
  clear h
  by_cases c3 : 0 ≤ a1
  · rw [if_pos c3] at H
    have c3b0 := eq_true c3
    have c3b1 : decide (0 ≤ a1) = true := decide_eq_true c3
    clear c3
    obtain ⟨ji4, hji4⟩ : ∃ j_ : Int, (shr .u32 a0 a1) = j_ := ⟨_, rfl⟩
    replace H : (some (Go.bits .or .u32 (ji4) (shl .u32 a0 ((32 - a1) % 4294967296)))) = some r := by first | (rw [hji4] at H; exact H) | (simp only [hji4] at H ⊢; exact H)
    have hji4_ : (a0 / 2 ^ min a1.toNat 32) = ji4 := hji4
    have hji4z : a1 ≤ 32 → (a0 / 2 ^ a1.toNat) = ji4 := shr_small hji4
    obtain ⟨ji5, hji5⟩ : ∃ j_ : Int, (shl .u32 a0 ((32 - a1) % 4294967296)) = j_ := ⟨_, rfl⟩
    replace H : (some (Go.bits .or .u32 (ji4) (ji5))) = some r := by first | (rw [hji5] at H; exact H) | (simp only [hji5] at H ⊢; exact H)
    have hji5_ : (IntKind.u32.wrap (a0 * 2 ^ min ((32 - a1) % 4294967296).toNat 32)) = ji5 := hji5
    have hji5z : ((32 - a1) % 4294967296) ≤ 32 → (IntKind.u32.wrap (a0 * 2 ^ ((32 - a1) % 4294967296).toNat)) = ji5 := shl_small hji5
    obtain rfl := Option.some.inj H
    have hq0 : ¬ ((32 - a1) % 4294967296 < 0) := by omega
    have hq1 : ¬ (a1 < 0) := by have := of_decide_eq_true c3b1; omega
    go_enter Tryd.func90, Tryd.ntmps90
    go_wp2
    go_ret
    exact ⟨by first | rfl | (simp; done) | (simp only [← hji4, ← hji5] <;> (first | rfl | simp)) | (simp [*]; done), by repeat (first | exact Drawn0.refl _ | apply Drawn0.step)⟩
  · rw [if_neg c3] at H
    exact absurd H (by simp)

/-! ### demurralref03_word: function 89 -/
def demurralref03_word.f (l0 : List Int) (a1 : ByteArray) (a2 : Int) : Option (Int) := if a2 < 16 then (if 0 ≤ (wrap64 (4 * a2)) then (if (wrap64 (4 * a2)) < (a1.size : Int) then (if 0 ≤ (wrap64 ((wrap64 (4 * a2)) + 1)) then (if (wrap64 ((wrap64 (4 * a2)) + 1)) < (a1.size : Int) then (if 0 ≤ (wrap64 ((wrap64 (4 * a2)) + 2)) then (if (wrap64 ((wrap64 (4 * a2)) + 2)) < (a1.size : Int) then (if 0 ≤ (wrap64 ((wrap64 (4 * a2)) + 3)) then (if (wrap64 ((wrap64 (4 * a2)) + 3)) < (a1.size : Int) then (some ((((((((((bt a1 (wrap64 (4 * a2))) % 4294967296) * 16777216) % 4294967296) + ((((bt a1 (wrap64 ((wrap64 (4 * a2)) + 1))) % 4294967296) * 65536) % 4294967296)) % 4294967296) + ((((bt a1 (wrap64 ((wrap64 (4 * a2)) + 2))) % 4294967296) * 256) % 4294967296)) % 4294967296) + ((bt a1 (wrap64 ((wrap64 (4 * a2)) + 3))) % 4294967296)) % 4294967296)) else (none)) else (none)) else (none)) else (none)) else (none)) else (none)) else (none)) else (none)) else (if 0 ≤ (wrap64 (a2 - 15)) then (if (wrap64 (a2 - 15)) < (l0.length : Int) then (if 0 ≤ (wrap64 (a2 - 2)) then (if (wrap64 (a2 - 2)) < (l0.length : Int) then ((demurralref03_ror.f (rd l0 (wrap64 (a2 - 2))) 17).bind fun t176 => ((demurralref03_ror.f (rd l0 (wrap64 (a2 - 2))) 19).bind fun t177 => (if 0 ≤ (wrap64 (a2 - 7)) then (if (wrap64 (a2 - 7)) < (l0.length : Int) then ((demurralref03_ror.f (rd l0 (wrap64 (a2 - 15))) 7).bind fun t179 => ((demurralref03_ror.f (rd l0 (wrap64 (a2 - 15))) 18).bind fun t180 => (if 0 ≤ (wrap64 (a2 - 16)) then (if (wrap64 (a2 - 16)) < (l0.length : Int) then (some (((((((Go.bits .xor .u32 (Go.bits .xor .u32 t176 t177) ((rd l0 (wrap64 (a2 - 2))) / 1024)) + (rd l0 (wrap64 (a2 - 7)))) % 4294967296) + (Go.bits .xor .u32 (Go.bits .xor .u32 t179 t180) ((rd l0 (wrap64 (a2 - 15))) / 8))) % 4294967296) + (rd l0 (wrap64 (a2 - 16)))) % 4294967296)) else (none)) else (none)))) else (none)) else (none)))) else (none)) else (none)) else (none)) else (none))
def demurralref03_word.T2 : Bool × List (List Nat × List Nat) := (true, [([], []), ([], []), ([1], [1]), ([0, 2], [0, 2]), ([3], [3]), ([4], [4]), ([], []), ([], []), ([7], [7]), ([8], [8]), ([6, 9], [6, 9]), ([10], [10]), ([11], [11]), ([5, 12], [5, 12]), ([], []), ([], []), ([15], [15]), ([16], [16]), ([14, 17], [14, 17]), ([18], [18]), ([19], [19]), ([13, 20], [13, 20]), ([], []), ([], []), ([23], [23]), ([24], [24]), ([22, 25], [22, 25]), ([26], [26]), ([21, 27], [21, 27]), ([28, 0, 1, 2, 3, 4, 5, 6, 7, 8, 9, 10, 11, 12, 13, 14, 15, 16, 17, 18, 19, 20, 21, 22, 23, 24, 25, 26, 27, 28], [28])])
def demurralref03_word.B2 : List Nat := [0, 0, 2, 7, 15, 31, 0, 0, 128, 384, 960, 1984, 4032, 8191, 0, 0, 32768, 98304, 245760, 507904, 1032192, 2097151, 0, 0, 8388608, 25165824, 62914560, 130023424, 268435455, 536870911]
theorem demurralref03_word.tab2 : rtab .any (opsOf Tryd.f89 2) = demurralref03_word.T2 := by kernel_rfl
theorem demurralref03_word.bits2 : waitsOk demurralref03_word.T2.2 demurralref03_word.B2 = true := by kernel_rfl
def demurralref03_word.T5 : Bool × List (List Nat × List Nat) := (true, [([], []), ([0], [0]), ([], []), ([2, 1], [2]), ([1, 3], [1, 3]), ([], []), ([5], [5]), ([4, 6], [4, 6]), ([], []), ([], []), ([9], [9]), ([8, 10], [8, 10]), ([11], [11]), ([7, 12], [7, 12]), ([], []), ([14, 3], [14]), ([], []), ([16, 15], [16]), ([15, 17], [15, 17]), ([], []), ([19], [19]), ([18, 20], [18, 20]), ([13, 21], [13, 21]), ([], []), ([], []), ([24], [24]), ([23, 25], [23, 25]), ([26], [26]), ([22, 27], [22, 27]), ([28, 17, 0, 1, 2, 3, 4, 5, 6, 7, 8, 9, 10, 11, 12, 13, 14, 15, 16, 17, 18, 19, 20, 21, 22, 23, 24, 25, 26, 27, 28], [28])])
def demurralref03_word.B5 : List Nat := [0, 1, 0, 7, 15, 0, 32, 127, 0, 0, 512, 1792, 3840, 8191, 0, 16399, 0, 114703, 245775, 0, 524288, 2080783, 4194303, 0, 0, 16777216, 58720256, 125829120, 268435455, 536870911]
theorem demurralref03_word.tab5 : rtab .any (opsOf Tryd.f89 5) = demurralref03_word.T5 := by kernel_rfl
theorem demurralref03_word.bits5 : waitsOk demurralref03_word.T5.2 demurralref03_word.B5 = true := by kernel_rfl
set_option maxHeartbeats 8000000 in
set_option maxRecDepth 100000 in
theorem demurralref03_word.calls (A0 : Option Addr) (c0 : Nat) (l0 : List Int) (a1 : ByteArray) (a2 : Int) (r : Int) (w : World) (hr0 : Kd.C (Kd.int .u32) w A0 l0.length l0) (hc0 : l0.length ≤ c0) (h : demurralref03_word.f l0 a1 a2 = some r) :
    Calls Tryd.prog 89 #[.slice A0 l0.length c0, .string a1, .int .i64 a2] w fun e w' => e = .returned (.int .u32 r) ∧ Below w.heap.size w w' := by
  have HR0 := Aside0.mk hr0
  have HC0 := Aside0.mk hc0
  clear hr0 hc0
  have HB := Aside0.mk (Below.refl w.heap.size w)
  have H : (if a2 < 16 then (if 0 ≤ (wrap64 (4 * a2)) then (if (wrap64 (4 * a2)) < (a1.size : Int) then (if 0 ≤ (wrap64 ((wrap64 (4 * a2)) + 1)) then (if (wrap64 ((wrap64 (4 * a2)) + 1)) < (a1.size : Int) then (if 0 ≤ (wrap64 ((wrap64 (4 * a2)) + 2)) then (if (wrap64 ((wrap64 (4 * a2)) + 2)) < (a1.size : Int) then (if 0 ≤ (wrap64 ((wrap64 (4 * a2)) + 3)) then (if (wrap64 ((wrap64 (4 * a2)) + 3)) < (a1.size : Int) then (some ((((((((((bt a1 (wrap64 (4 * a2))) % 4294967296) * 16777216) % 4294967296) + ((((bt a1 (wrap64 ((wrap64 (4 * a2)) + 1))) % 4294967296) * 65536) % 4294967296)) % 4294967296) + ((((bt a1 (wrap64 ((wrap64 (4 * a2)) + 2))) % 4294967296) * 256) % 4294967296)) % 4294967296) + ((bt a1 (wrap64 ((wrap64 (4 * a2)) + 3))) % 4294967296)) % 4294967296)) else (none)) else (none)) else (none)) else (none)) else (none)) else (none)) else (none)) else (none)) else (if 0 ≤ (wrap64 (a2 - 15)) then (if (wrap64 (a2 - 15)) < (l0.length : Int) then (if 0 ≤ (wrap64 (a2 - 2)) then (if (wrap64 (a2 - 2)) < (l0.length : Int) then ((demurralref03_ror.f (rd l0 (wrap64 (a2 - 2))) 17).bind fun t176 => ((demurralref03_ror.f (rd l0 (wrap64 (a2 - 2))) 19).bind fun t177 => (if 0 ≤ (wrap64 (a2 - 7)) then (if (wrap64 (a2 - 7)) < (l0.length : Int) then ((demurralref03_ror.f (rd l0 (wrap64 (a2 - 15))) 7).bind fun t179 => ((demurralref03_ror.f (rd l0 (wrap64 (a2 - 15))) 18).bind fun t180 => (if 0 ≤ (wrap64 (a2 - 16)) then (if (wrap64 (a2 - 16)) < (l0.length : Int) then (some (((((((Go.bits .xor .u32 (Go.bits .xor .u32 t176 t177) ((rd l0 (wrap64 (a2 - 2))) / 1024)) + (rd l0 (wrap64 (a2 - 7)))) % 4294967296) + (Go.bits .xor .u32 (Go.bits .xor .u32 t179 t180) ((rd l0 (wrap64 (a2 - 15))) / 8))) % 4294967296) + (rd l0 (wrap64 (a2 - 16)))) % 4294967296)) else (none)) else (none)))) else (none)) else (none)))) else (none)) else (none)) else (none)) else (none))) = some r := h
  clear h
  by_cases c4 : a2 < 16
  · rw [if_pos c4] at H
    have c4b0 : decide (a2 < 16) = true := decide_eq_true c4
    clear c4
    obtain ⟨ji5, hji5⟩ : ∃ j_ : Int, (wrap64 (4 * a2)) = j_ := ⟨_, rfl⟩
    replace H : (if 0 ≤ (ji5) then (if (ji5) < (a1.size : Int) then (if 0 ≤ (wrap64 ((ji5) + 1)) then (if (wrap64 ((ji5) + 1)) < (a1.size : Int) then (if 0 ≤ (wrap64 ((ji5) + 2)) then (if (wrap64 ((ji5) + 2)) < (a1.size : Int) then (if 0 ≤ (wrap64 ((ji5) + 3)) then (if (wrap64 ((ji5) + 3)) < (a1.size : Int) then (some ((((((((((bt a1 (ji5)) % 4294967296) * 16777216) % 4294967296) + ((((bt a1 (wrap64 ((ji5) + 1))) % 4294967296) * 65536) % 4294967296)) % 4294967296) + ((((bt a1 (wrap64 ((ji5) + 2))) % 4294967296) * 256) % 4294967296)) % 4294967296) + ((bt a1 (wrap64 ((ji5) + 3))) % 4294967296)) % 4294967296)) else (none)) else (none)) else (none)) else (none)) else (none)) else (none)) else (none)) else (none)) = some r := by first | (rw [hji5] at H; exact H) | (simp only [hji5] at H ⊢; exact H)
    have hji5w : (IntKind.i64.wrap (4 * a2)) = ji5 := (i64_w _).trans hji5
    by_cases c6 : 0 ≤ (ji5)
    · rw [if_pos c6] at H
      have c6b0 : decide (0 ≤ (ji5)) = true := decide_eq_true c6
      clear c6
      by_cases c7 : (ji5) < (a1.size : Int)
      · rw [if_pos c7] at H
        have c7b0 : decide ((ji5) < (a1.size : Int)) = true := decide_eq_true c7
        clear c7
        obtain ⟨ji9, hji9⟩ : ∃ j_ : Int, (wrap64 ((ji5) + 1)) = j_ := ⟨_, rfl⟩
        replace H : (if 0 ≤ (ji9) then (if (ji9) < (a1.size : Int) then (if 0 ≤ (wrap64 ((ji5) + 2)) then (if (wrap64 ((ji5) + 2)) < (a1.size : Int) then (if 0 ≤ (wrap64 ((ji5) + 3)) then (if (wrap64 ((ji5) + 3)) < (a1.size : Int) then (some ((((((((((bt a1 (ji5)) % 4294967296) * 16777216) % 4294967296) + ((((bt a1 (ji9)) % 4294967296) * 65536) % 4294967296)) % 4294967296) + ((((bt a1 (wrap64 ((ji5) + 2))) % 4294967296) * 256) % 4294967296)) % 4294967296) + ((bt a1 (wrap64 ((ji5) + 3))) % 4294967296)) % 4294967296)) else (none)) else (none)) else (none)) else (none)) else (none)) else (none)) = some r := by first | (rw [hji9] at H; exact H) | (simp only [hji9] at H ⊢; exact H)
        have hji9w : (IntKind.i64.wrap ((ji5) + 1)) = ji9 := (i64_w _).trans hji9
        by_cases c10 : 0 ≤ (ji9)
        · rw [if_pos c10] at H
          have c10b0 : decide (0 ≤ (ji9)) = true := decide_eq_true c10
          clear c10
          by_cases c11 : (ji9) < (a1.size : Int)
          · rw [if_pos c11] at H
            have c11b0 : decide ((ji9) < (a1.size : Int)) = true := decide_eq_true c11
            clear c11
            obtain ⟨ji13, hji13⟩ : ∃ j_ : Int, (wrap64 ((ji5) + 2)) = j_ := ⟨_, rfl⟩
            replace H : (if 0 ≤ (ji13) then (if (ji13) < (a1.size : Int) then (if 0 ≤ (wrap64 ((ji5) + 3)) then (if (wrap64 ((ji5) + 3)) < (a1.size : Int) then (some ((((((((((bt a1 (ji5)) % 4294967296) * 16777216) % 4294967296) + ((((bt a1 (ji9)) % 4294967296) * 65536) % 4294967296)) % 4294967296) + ((((bt a1 (ji13)) % 4294967296) * 256) % 4294967296)) % 4294967296) + ((bt a1 (wrap64 ((ji5) + 3))) % 4294967296)) % 4294967296)) else (none)) else (none)) else (none)) else (none)) = some r := by first | (rw [hji13] at H; exact H) | (simp only [hji13] at H ⊢; exact H)
            have hji13w : (IntKind.i64.wrap ((ji5) + 2)) = ji13 := (i64_w _).trans hji13
            by_cases c14 : 0 ≤ (ji13)
            · rw [if_pos c14] at H
              have c14b0 : decide (0 ≤ (ji13)) = true := decide_eq_true c14
              clear c14
              by_cases c15 : (ji13) < (a1.size : Int)
              · rw [if_pos c15] at H
                have c15b0 : decide ((ji13) < (a1.size : Int)) = true := decide_eq_true c15
                clear c15
                obtain ⟨ji17, hji17⟩ : ∃ j_ : Int, (wrap64 ((ji5) + 3)) = j_ := ⟨_, rfl⟩
                replace H : (if 0 ≤ (ji17) then (if (ji17) < (a1.size : Int) then (some ((((((((((bt a1 (ji5)) % 4294967296) * 16777216) % 4294967296) + ((((bt a1 (ji9)) % 4294967296) * 65536) % 4294967296)) % 4294967296) + ((((bt a1 (ji13)) % 4294967296) * 256) % 4294967296)) % 4294967296) + ((bt a1 (ji17)) % 4294967296)) % 4294967296)) else (none)) else (none)) = some r := by first | (rw [hji17] at H; exact H) | (simp only [hji17] at H ⊢; exact H)
                have hji17w : (IntKind.i64.wrap ((ji5) + 3)) = ji17 := (i64_w _).trans hji17
                by_cases c18 : 0 ≤ (ji17)
                · rw [if_pos c18] at H
                  have c18b0 : decide (0 ≤ (ji17)) = true := decide_eq_true c18
                  clear c18
                  by_cases c19 : (ji17) < (a1.size : Int)
                  · rw [if_pos c19] at H
                    have c19b0 : decide ((ji17) < (a1.size : Int)) = true := decide_eq_true c19
                    clear c19
                    obtain rfl := Option.some.inj H
                    go_enter Tryd.func89, Tryd.ntmps89
                    try go_wp2
                    have n0_ := Aside0.mk (below_drew1 HB.out)
                    clear HB
                    have HB := n0_
                    clear n0_
                    have p8 : 0 ≤ ((ji5) : Int) := of_decide_eq_true (by first | (with_reducible assumption) | assumption)
                    have q8 : (ji5) < (a1.size : Int) := of_decide_eq_true (by first | (with_reducible assumption) | assumption)
                    have hx8 := bt_at a1 (ji5)
                    replace p8 := eq_true p8
                    replace q8 := eq_true q8
                    have p12 : 0 ≤ ((ji9) : Int) := of_decide_eq_true (by first | (with_reducible assumption) | assumption)
                    have q12 : (ji9) < (a1.size : Int) := of_decide_eq_true (by first | (with_reducible assumption) | assumption)
                    have hx12 := bt_at a1 (ji9)
                    replace p12 := eq_true p12
                    replace q12 := eq_true q12
                    have p16 : 0 ≤ ((ji13) : Int) := of_decide_eq_true (by first | (with_reducible assumption) | assumption)
                    have q16 : (ji13) < (a1.size : Int) := of_decide_eq_true (by first | (with_reducible assumption) | assumption)
                    have hx16 := bt_at a1 (ji13)
                    replace p16 := eq_true p16
                    replace q16 := eq_true q16
                    have p20 : 0 ≤ ((ji17) : Int) := of_decide_eq_true (by first | (with_reducible assumption) | assumption)
                    have q20 : (ji17) < (a1.size : Int) := of_decide_eq_true (by first | (with_reducible assumption) | assumption)
                    have hx20 := bt_at a1 (ji17)
                    replace p20 := eq_true p20
                    replace q20 := eq_true q20
                    refine start_ (n := 30) (S := fun w' => True) (ds := []) #[false, false, false, false, false, false, false, false, false, false, false, false, false, false, false, false, false, false, false, false, false, false, false, false, false, false, false, false, false, false] (by kernel_rfl) rfl rfl trivial (fun hHeld => ?_); refine with_tabW demurralref03_word.tab2 demurralref03_word.bits2 (fun HT_ HW_ => ?_)
                    generalize w.drew = w21 at HB hHeld ⊢
                    refine pure_ (i := 0) (N := some 11) (v := ?_) (a' := ?_) #[true, false, false, false, false, false, false, false, false, false, false, false, false, false, false, false, false, false, false, false, false, false, false, false, false, false, false, false, false, false] rfl rfl (any_of HT_.out (by kernel_rfl)) (fun _ _ _ h => h) (Or.inl ⟨by rfl, ?_⟩) ?_ ?_
                    rotate_left
                    · intro w'
                      go_simp
                      with_reducible rfl
                    rotate_left
                    · simp only [Act.put, List.setIfInBounds_toArray, List.set_cons_zero, List.set_cons_succ, i64_w, i32_w]
                      rfl
                    refine pure_ (i := 1) (N := some 12) (v := ?_) (a' := ?_) #[true, true, false, false, false, false, false, false, false, false, false, false, false, false, false, false, false, false, false, false, false, false, false, false, false, false, false, false, false, false] rfl rfl (any_of HT_.out (by kernel_rfl)) (fun _ _ _ h => h) (Or.inl ⟨by rfl, ?_⟩) ?_ ?_
                    rotate_left
                    · intro w'
                      go_simp
                      with_reducible rfl
                    rotate_left
                    · simp only [Act.put, List.setIfInBounds_toArray, List.set_cons_zero, List.set_cons_succ, i64_w, i32_w]
                      rfl
                    refine pure_ (i := 2) (N := some 13) (v := ?_) (a' := ?_) #[true, true, true, false, false, false, false, false, false, false, false, false, false, false, false, false, false, false, false, false, false, false, false, false, false, false, false, false, false, false] rfl rfl (any_of HT_.out (by kernel_rfl)) (fun _ _ _ h => h) (Or.inl ⟨by rfl, ?_⟩) ?_ ?_
                    rotate_left
                    · intro w'
                      go_simp
                      with_reducible rfl
                    rotate_left
                    · simp only [Act.put, List.setIfInBounds_toArray, List.set_cons_zero, List.set_cons_succ, i64_w, i32_w]
                      rfl
                    refine pure_ (i := 6) (N := some 17) (v := ?_) (a' := ?_) #[true, true, true, false, false, false, true, false, false, false, false, false, false, false, false, false, false, false, false, false, false, false, false, false, false, false, false, false, false, false] rfl rfl (any_of HT_.out (by kernel_rfl)) (fun _ _ _ h => h) (Or.inl ⟨by rfl, ?_⟩) ?_ ?_
                    rotate_left
                    · intro w'
                      go_simp
                      with_reducible rfl
                    rotate_left
                    · simp only [Act.put, List.setIfInBounds_toArray, List.set_cons_zero, List.set_cons_succ, i64_w, i32_w]
                      rfl
                    refine pure_ (i := 7) (N := some 18) (v := ?_) (a' := ?_) #[true, true, true, false, false, false, true, true, false, false, false, false, false, false, false, false, false, false, false, false, false, false, false, false, false, false, false, false, false, false] rfl rfl (any_of HT_.out (by kernel_rfl)) (fun _ _ _ h => h) (Or.inl ⟨by rfl, ?_⟩) ?_ ?_
                    rotate_left
                    · intro w'
                      go_simp
                      with_reducible rfl
                    rotate_left
                    · simp only [Act.put, List.setIfInBounds_toArray, List.set_cons_zero, List.set_cons_succ, i64_w, i32_w]
                      rfl
                    refine pure_ (i := 8) (N := some 19) (v := ?_) (a' := ?_) #[true, true, true, false, false, false, true, true, true, false, false, false, false, false, false, false, false, false, false, false, false, false, false, false, false, false, false, false, false, false] rfl rfl (any_of HT_.out (by kernel_rfl)) (fun _ _ _ h => h) (Or.inl ⟨by rfl, ?_⟩) ?_ ?_
                    rotate_left
                    · intro w'
                      go_simp
                      with_reducible rfl
                    rotate_left
                    · simp only [Act.put, List.setIfInBounds_toArray, List.set_cons_zero, List.set_cons_succ, i64_w, i32_w]
                      rfl
                    refine pure_ (i := 9) (N := some 20) (v := ?_) (a' := ?_) #[true, true, true, false, false, false, true, true, true, true, false, false, false, false, false, false, false, false, false, false, false, false, false, false, false, false, false, false, false, false] rfl rfl (any_of HT_.out (by kernel_rfl)) (fun _ _ _ h => h) (Or.inl ⟨by rfl, ?_⟩) ?_ ?_
                    rotate_left
                    · intro w'
                      go_simp
                      with_reducible rfl
                    rotate_left
                    · simp only [Act.put, List.setIfInBounds_toArray, List.set_cons_zero, List.set_cons_succ, i64_w, i32_w]
                      rfl
                    refine pure_ (i := 14) (N := some 25) (v := ?_) (a' := ?_) #[true, true, true, false, false, false, true, true, true, true, false, false, false, false, true, false, false, false, false, false, false, false, false, false, false, false, false, false, false, false] rfl rfl (any_of HT_.out (by kernel_rfl)) (fun _ _ _ h => h) (Or.inl ⟨by rfl, ?_⟩) ?_ ?_
                    rotate_left
                    · intro w'
                      go_simp
                      with_reducible rfl
                    rotate_left
                    · simp only [Act.put, List.setIfInBounds_toArray, List.set_cons_zero, List.set_cons_succ, i64_w, i32_w]
                      rfl
                    refine pure_ (i := 15) (N := some 26) (v := ?_) (a' := ?_) #[true, true, true, false, false, false, true, true, true, true, false, false, false, false, true, true, false, false, false, false, false, false, false, false, false, false, false, false, false, false] rfl rfl (any_of HT_.out (by kernel_rfl)) (fun _ _ _ h => h) (Or.inl ⟨by rfl, ?_⟩) ?_ ?_
                    rotate_left
                    · intro w'
                      go_simp
                      with_reducible rfl
                    rotate_left
                    · simp only [Act.put, List.setIfInBounds_toArray, List.set_cons_zero, List.set_cons_succ, i64_w, i32_w]
                      rfl
                    refine pure_ (i := 16) (N := some 27) (v := ?_) (a' := ?_) #[true, true, true, false, false, false, true, true, true, true, false, false, false, false, true, true, true, false, false, false, false, false, false, false, false, false, false, false, false, false] rfl rfl (any_of HT_.out (by kernel_rfl)) (fun _ _ _ h => h) (Or.inl ⟨by rfl, ?_⟩) ?_ ?_
                    rotate_left
                    · intro w'
                      go_simp
                      with_reducible rfl
                    rotate_left
                    · simp only [Act.put, List.setIfInBounds_toArray, List.set_cons_zero, List.set_cons_succ, i64_w, i32_w]
                      rfl
                    refine pure_ (i := 17) (N := some 28) (v := ?_) (a' := ?_) #[true, true, true, false, false, false, true, true, true, true, false, false, false, false, true, true, true, true, false, false, false, false, false, false, false, false, false, false, false, false] rfl rfl (any_of HT_.out (by kernel_rfl)) (fun _ _ _ h => h) (Or.inl ⟨by rfl, ?_⟩) ?_ ?_
                    rotate_left
                    · intro w'
                      go_simp
                      with_reducible rfl
                    rotate_left
                    · simp only [Act.put, List.setIfInBounds_toArray, List.set_cons_zero, List.set_cons_succ, i64_w, i32_w]
                      rfl
                    refine pure_ (i := 22) (N := some 33) (v := ?_) (a' := ?_) #[true, true, true, false, false, false, true, true, true, true, false, false, false, false, true, true, true, true, false, false, false, false, true, false, false, false, false, false, false, false] rfl rfl (any_of HT_.out (by kernel_rfl)) (fun _ _ _ h => h) (Or.inl ⟨by rfl, ?_⟩) ?_ ?_
                    rotate_left
                    · intro w'
                      go_simp
                      with_reducible rfl
                    rotate_left
                    · simp only [Act.put, List.setIfInBounds_toArray, List.set_cons_zero, List.set_cons_succ, i64_w, i32_w]
                      rfl
                    refine pure_ (i := 23) (N := some 34) (v := ?_) (a' := ?_) #[true, true, true, false, false, false, true, true, true, true, false, false, false, false, true, true, true, true, false, false, false, false, true, true, false, false, false, false, false, false] rfl rfl (any_of HT_.out (by kernel_rfl)) (fun _ _ _ h => h) (Or.inl ⟨by rfl, ?_⟩) ?_ ?_
                    rotate_left
                    · intro w'
                      go_simp
                      with_reducible rfl
                    rotate_left
                    · simp only [Act.put, List.setIfInBounds_toArray, List.set_cons_zero, List.set_cons_succ, i64_w, i32_w]
                      rfl
                    refine pure_ (i := 24) (N := some 35) (v := ?_) (a' := ?_) #[true, true, true, false, false, false, true, true, true, true, false, false, false, false, true, true, true, true, false, false, false, false, true, true, true, false, false, false, false, false] rfl rfl (any_of HT_.out (by kernel_rfl)) (fun _ _ _ h => h) (Or.inl ⟨by rfl, ?_⟩) ?_ ?_
                    rotate_left
                    · intro w'
                      go_simp
                      with_reducible rfl
                    rotate_left
                    · simp only [Act.put, List.setIfInBounds_toArray, List.set_cons_zero, List.set_cons_succ, i64_w, i32_w]
                      rfl
                    refine pure_ (i := 25) (N := some 36) (v := ?_) (a' := ?_) #[true, true, true, false, false, false, true, true, true, true, false, false, false, false, true, true, true, true, false, false, false, false, true, true, true, true, false, false, false, false] rfl rfl (any_of HT_.out (by kernel_rfl)) (fun _ _ _ h => h) (Or.inl ⟨by rfl, ?_⟩) ?_ ?_
                    rotate_left
                    · intro w'
                      go_simp
                      with_reducible rfl
                    rotate_left
                    · simp only [Act.put, List.setIfInBounds_toArray, List.set_cons_zero, List.set_cons_succ, i64_w, i32_w]
                      rfl
                    refine take_ (i := 3) (N := some 14) (v := ?_) (a' := ?_) #[true, true, true, true, false, false, true, true, true, true, false, false, false, false, true, true, true, true, false, false, false, false, true, true, true, true, false, false, false, false] rfl rfl (take_ofW HT_.out HW_.out (by kernel_rfl)) (fun _ _ _ h => h) (Or.inl ⟨by rfl, ?_⟩) hHeld ?_ ?_
                    rotate_left
                    · intro w' _
                      go_simp
                      with_reducible rfl
                    rotate_left
                    · simp only [Act.put, List.setIfInBounds_toArray, List.set_cons_zero, List.set_cons_succ, i64_w, i32_w]
                      rfl
                    refine pure_ (i := 4) (N := some 15) (v := ?_) (a' := ?_) #[true, true, true, true, true, false, true, true, true, true, false, false, false, false, true, true, true, true, false, false, false, false, true, true, true, true, false, false, false, false] rfl rfl (any_of HT_.out (by kernel_rfl)) (fun _ _ _ h => h) (Or.inl ⟨by rfl, ?_⟩) ?_ ?_
                    rotate_left
                    · intro w'
                      go_simp
                      with_reducible rfl
                    rotate_left
                    · simp only [Act.put, List.setIfInBounds_toArray, List.set_cons_zero, List.set_cons_succ, i64_w, i32_w]
                      rfl
                    refine pure_ (i := 5) (N := some 16) (v := ?_) (a' := ?_) #[true, true, true, true, true, true, true, true, true, true, false, false, false, false, true, true, true, true, false, false, false, false, true, true, true, true, false, false, false, false] rfl rfl (any_of HT_.out (by kernel_rfl)) (fun _ _ _ h => h) (Or.inl ⟨by rfl, ?_⟩) ?_ ?_
                    rotate_left
                    · intro w'
                      go_simp
                      with_reducible rfl
                    rotate_left
                    · simp only [Act.put, List.setIfInBounds_toArray, List.set_cons_zero, List.set_cons_succ, i64_w, i32_w]
                      rfl
                    refine take_ (i := 10) (N := some 21) (v := ?_) (a' := ?_) #[true, true, true, true, true, true, true, true, true, true, true, false, false, false, true, true, true, true, false, false, false, false, true, true, true, true, false, false, false, false] rfl rfl (take_ofW HT_.out HW_.out (by kernel_rfl)) (fun _ _ _ h => h) (Or.inl ⟨by rfl, ?_⟩) hHeld ?_ ?_
                    rotate_left
                    · intro w' _
                      go_simp
                      with_reducible rfl
                    rotate_left
                    · simp only [Act.put, List.setIfInBounds_toArray, List.set_cons_zero, List.set_cons_succ, i64_w, i32_w]
                      rfl
                    refine pure_ (i := 11) (N := some 22) (v := ?_) (a' := ?_) #[true, true, true, true, true, true, true, true, true, true, true, true, false, false, true, true, true, true, false, false, false, false, true, true, true, true, false, false, false, false] rfl rfl (any_of HT_.out (by kernel_rfl)) (fun _ _ _ h => h) (Or.inl ⟨by rfl, ?_⟩) ?_ ?_
                    rotate_left
                    · intro w'
                      go_simp
                      with_reducible rfl
                    rotate_left
                    · simp only [Act.put, List.setIfInBounds_toArray, List.set_cons_zero, List.set_cons_succ, i64_w, i32_w]
                      rfl
                    refine pure_ (i := 12) (N := some 23) (v := ?_) (a' := ?_) #[true, true, true, true, true, true, true, true, true, true, true, true, true, false, true, true, true, true, false, false, false, false, true, true, true, true, false, false, false, false] rfl rfl (any_of HT_.out (by kernel_rfl)) (fun _ _ _ h => h) (Or.inl ⟨by rfl, ?_⟩) ?_ ?_
                    rotate_left
                    · intro w'
                      go_simp
                      with_reducible rfl
                    rotate_left
                    · simp only [Act.put, List.setIfInBounds_toArray, List.set_cons_zero, List.set_cons_succ, i64_w, i32_w]
                      rfl
                    refine pure_ (i := 13) (N := some 24) (v := ?_) (a' := ?_) #[true, true, true, true, true, true, true, true, true, true, true, true, true, true, true, true, true, true, false, false, false, false, true, true, true, true, false, false, false, false] rfl rfl (any_of HT_.out (by kernel_rfl)) (fun _ _ _ h => h) (Or.inl ⟨by rfl, ?_⟩) ?_ ?_
                    rotate_left
                    · intro w'
                      go_simp
                      with_reducible rfl
                    rotate_left
                    · simp only [Act.put, List.setIfInBounds_toArray, List.set_cons_zero, List.set_cons_succ, i64_w, i32_w]
                      rfl
                    refine take_ (i := 18) (N := some 29) (v := ?_) (a' := ?_) #[true, true, true, true, true, true, true, true, true, true, true, true, true, true, true, true, true, true, true, false, false, false, true, true, true, true, false, false, false, false] rfl rfl (take_ofW HT_.out HW_.out (by kernel_rfl)) (fun _ _ _ h => h) (Or.inl ⟨by rfl, ?_⟩) hHeld ?_ ?_
                    rotate_left
                    · intro w' _
                      go_simp
                      with_reducible rfl
                    rotate_left
                    · simp only [Act.put, List.setIfInBounds_toArray, List.set_cons_zero, List.set_cons_succ, i64_w, i32_w]
                      rfl
                    refine pure_ (i := 19) (N := some 30) (v := ?_) (a' := ?_) #[true, true, true, true, true, true, true, true, true, true, true, true, true, true, true, true, true, true, true, true, false, false, true, true, true, true, false, false, false, false] rfl rfl (any_of HT_.out (by kernel_rfl)) (fun _ _ _ h => h) (Or.inl ⟨by rfl, ?_⟩) ?_ ?_
                    rotate_left
                    · intro w'
                      go_simp
                      with_reducible rfl
                    rotate_left
                    · simp only [Act.put, List.setIfInBounds_toArray, List.set_cons_zero, List.set_cons_succ, i64_w, i32_w]
                      rfl
                    refine pure_ (i := 20) (N := some 31) (v := ?_) (a' := ?_) #[true, true, true, true, true, true, true, true, true, true, true, true, true, true, true, true, true, true, true, true, true, false, true, true, true, true, false, false, false, false] rfl rfl (any_of HT_.out (by kernel_rfl)) (fun _ _ _ h => h) (Or.inl ⟨by rfl, ?_⟩) ?_ ?_
                    rotate_left
                    · intro w'
                      go_simp
                      with_reducible rfl
                    rotate_left
                    · simp only [Act.put, List.setIfInBounds_toArray, List.set_cons_zero, List.set_cons_succ, i64_w, i32_w]
                      rfl
                    refine pure_ (i := 21) (N := some 32) (v := ?_) (a' := ?_) #[true, true, true, true, true, true, true, true, true, true, true, true, true, true, true, true, true, true, true, true, true, true, true, true, true, true, false, false, false, false] rfl rfl (any_of HT_.out (by kernel_rfl)) (fun _ _ _ h => h) (Or.inl ⟨by rfl, ?_⟩) ?_ ?_
                    rotate_left
                    · intro w'
                      go_simp
                      with_reducible rfl
                    rotate_left
                    · simp only [Act.put, List.setIfInBounds_toArray, List.set_cons_zero, List.set_cons_succ, i64_w, i32_w]
                      rfl
                    refine take_ (i := 26) (N := some 37) (v := ?_) (a' := ?_) #[true, true, true, true, true, true, true, true, true, true, true, true, true, true, true, true, true, true, true, true, true, true, true, true, true, true, true, false, false, false] rfl rfl (take_ofW HT_.out HW_.out (by kernel_rfl)) (fun _ _ _ h => h) (Or.inl ⟨by rfl, ?_⟩) hHeld ?_ ?_
                    rotate_left
                    · intro w' _
                      go_simp
                      with_reducible rfl
                    rotate_left
                    · simp only [Act.put, List.setIfInBounds_toArray, List.set_cons_zero, List.set_cons_succ, i64_w, i32_w]
                      rfl
                    refine pure_ (i := 27) (N := some 38) (v := ?_) (a' := ?_) #[true, true, true, true, true, true, true, true, true, true, true, true, true, true, true, true, true, true, true, true, true, true, true, true, true, true, true, true, false, false] rfl rfl (any_of HT_.out (by kernel_rfl)) (fun _ _ _ h => h) (Or.inl ⟨by rfl, ?_⟩) ?_ ?_
                    rotate_left
                    · intro w'
                      go_simp
                      with_reducible rfl
                    rotate_left
                    · simp only [Act.put, List.setIfInBounds_toArray, List.set_cons_zero, List.set_cons_succ, i64_w, i32_w]
                      rfl
                    refine pure_ (i := 28) (N := some 39) (v := ?_) (a' := ?_) #[true, true, true, true, true, true, true, true, true, true, true, true, true, true, true, true, true, true, true, true, true, true, true, true, true, true, true, true, true, false] rfl rfl (any_of HT_.out (by kernel_rfl)) (fun _ _ _ h => h) (Or.inl ⟨by rfl, ?_⟩) ?_ ?_
                    rotate_left
                    · intro w'
                      go_simp
                      with_reducible rfl
                    rotate_left
                    · simp only [Act.put, List.setIfInBounds_toArray, List.set_cons_zero, List.set_cons_succ, i64_w, i32_w]
                      rfl
                    refine pure_ (i := 29) (N := some 6) (v := ?_) (a' := ?_) #[true, true, true, true, true, true, true, true, true, true, true, true, true, true, true, true, true, true, true, true, true, true, true, true, true, true, true, true, true, true] rfl rfl (any_of HT_.out (by kernel_rfl)) (fun _ _ _ h => h) (Or.inl ⟨by rfl, ?_⟩) ?_ ?_
                    rotate_left
                    · intro w'
                      go_simp
                      with_reducible rfl
                    rotate_left
                    · simp only [Act.put, List.setIfInBounds_toArray, List.set_cons_zero, List.set_cons_succ, i64_w, i32_w]
                      rfl
                    refine done_ (done_of HT_.out (by kernel_rfl)) ?_
                    try go_wp2
                    go_ret
                    exact ⟨by first | rfl | (simp [errW_none, errW_some] <;> rfl) | (simp only [← hji5, ← hji9, ← hji13, ← hji17]; first | rfl | (simp [errW_none, errW_some] <;> rfl)) | (simp [*, errW_none, errW_some] <;> rfl), by repeat (first | (with_reducible first | exact HB.out | apply below_alloc | apply pw_below_drewN | apply below_drew1) | exact HB.out)⟩
                  · rw [if_neg c19] at H
                    exact absurd H (by simp)
                · rw [if_neg c18] at H
                  exact absurd H (by simp)
              · rw [if_neg c15] at H
                exact absurd H (by simp)
            · rw [if_neg c14] at H
              exact absurd H (by simp)
          · rw [if_neg c11] at H
            exact absurd H (by simp)
        · rw [if_neg c10] at H
          exact absurd H (by simp)
      · rw [if_neg c7] at H
        exact absurd H (by simp)
    · rw [if_neg c6] at H
      exact absurd H (by simp)
  · rw [if_neg c4] at H
    have c4b0 : decide (a2 < 16) = false := decide_eq_false c4
    clear c4
    obtain ⟨ji22, hji22⟩ : ∃ j_ : Int, (wrap64 (a2 - 15)) = j_ := ⟨_, rfl⟩
    replace H : (if 0 ≤ (ji22) then (if (ji22) < (l0.length : Int) then (if 0 ≤ (wrap64 (a2 - 2)) then (if (wrap64 (a2 - 2)) < (l0.length : Int) then ((demurralref03_ror.f (rd l0 (wrap64 (a2 - 2))) 17).bind fun t176 => ((demurralref03_ror.f (rd l0 (wrap64 (a2 - 2))) 19).bind fun t177 => (if 0 ≤ (wrap64 (a2 - 7)) then (if (wrap64 (a2 - 7)) < (l0.length : Int) then ((demurralref03_ror.f (rd l0 (ji22)) 7).bind fun t179 => ((demurralref03_ror.f (rd l0 (ji22)) 18).bind fun t180 => (if 0 ≤ (wrap64 (a2 - 16)) then (if (wrap64 (a2 - 16)) < (l0.length : Int) then (some (((((((Go.bits .xor .u32 (Go.bits .xor .u32 t176 t177) ((rd l0 (wrap64 (a2 - 2))) / 1024)) + (rd l0 (wrap64 (a2 - 7)))) % 4294967296) + (Go.bits .xor .u32 (Go.bits .xor .u32 t179 t180) ((rd l0 (ji22)) / 8))) % 4294967296) + (rd l0 (wrap64 (a2 - 16)))) % 4294967296)) else (none)) else (none)))) else (none)) else (none)))) else (none)) else (none)) else (none)) else (none)) = some r := by first | (rw [hji22] at H; exact H) | (simp only [hji22] at H ⊢; exact H)
    have hji22w : (IntKind.i64.wrap (a2 - 15)) = ji22 := (i64_w _).trans hji22
    by_cases c23 : 0 ≤ (ji22)
    · rw [if_pos c23] at H
      have c23b0 : decide (0 ≤ (ji22)) = true := decide_eq_true c23
      clear c23
      by_cases c24 : (ji22) < (l0.length : Int)
      · rw [if_pos c24] at H
        have c24b0 : decide ((ji22) < (l0.length : Int)) = true := decide_eq_true c24
        clear c24
        obtain ⟨ji25, hji25⟩ : ∃ j_ : Int, (wrap64 (a2 - 2)) = j_ := ⟨_, rfl⟩
        replace H : (if 0 ≤ (ji25) then (if (ji25) < (l0.length : Int) then ((demurralref03_ror.f (rd l0 (ji25)) 17).bind fun t176 => ((demurralref03_ror.f (rd l0 (ji25)) 19).bind fun t177 => (if 0 ≤ (wrap64 (a2 - 7)) then (if (wrap64 (a2 - 7)) < (l0.length : Int) then ((demurralref03_ror.f (rd l0 (ji22)) 7).bind fun t179 => ((demurralref03_ror.f (rd l0 (ji22)) 18).bind fun t180 => (if 0 ≤ (wrap64 (a2 - 16)) then (if (wrap64 (a2 - 16)) < (l0.length : Int) then (some (((((((Go.bits .xor .u32 (Go.bits .xor .u32 t176 t177) ((rd l0 (ji25)) / 1024)) + (rd l0 (wrap64 (a2 - 7)))) % 4294967296) + (Go.bits .xor .u32 (Go.bits .xor .u32 t179 t180) ((rd l0 (ji22)) / 8))) % 4294967296) + (rd l0 (wrap64 (a2 - 16)))) % 4294967296)) else (none)) else (none)))) else (none)) else (none)))) else (none)) else (none)) = some r := by first | (rw [hji25] at H; exact H) | (simp only [hji25] at H ⊢; exact H)
        have hji25w : (IntKind.i64.wrap (a2 - 2)) = ji25 := (i64_w _).trans hji25
        by_cases c26 : 0 ≤ (ji25)
        · rw [if_pos c26] at H
          have c26b0 : decide (0 ≤ (ji25)) = true := decide_eq_true c26
          clear c26
          by_cases c27 : (ji25) < (l0.length : Int)
          · rw [if_pos c27] at H
            have c27b0 : decide ((ji25) < (l0.length : Int)) = true := decide_eq_true c27
            clear c27
            replace H := Option.bind_eq_some_iff.mp H
            obtain ⟨t176, A280, H⟩ := H
            replace H : ((demurralref03_ror.f (rd l0 (ji25)) 19).bind fun t177 => (if 0 ≤ (wrap64 (a2 - 7)) then (if (wrap64 (a2 - 7)) < (l0.length : Int) then ((demurralref03_ror.f (rd l0 (ji22)) 7).bind fun t179 => ((demurralref03_ror.f (rd l0 (ji22)) 18).bind fun t180 => (if 0 ≤ (wrap64 (a2 - 16)) then (if (wrap64 (a2 - 16)) < (l0.length : Int) then (some (((((((Go.bits .xor .u32 (Go.bits .xor .u32 t176 t177) ((rd l0 (ji25)) / 1024)) + (rd l0 (wrap64 (a2 - 7)))) % 4294967296) + (Go.bits .xor .u32 (Go.bits .xor .u32 t179 t180) ((rd l0 (ji22)) / 8))) % 4294967296) + (rd l0 (wrap64 (a2 - 16)))) % 4294967296)) else (none)) else (none)))) else (none)) else (none))) = some r := H
            have A28 := Aside0.mk A280
            clear A280
            replace H := Option.bind_eq_some_iff.mp H
            obtain ⟨t177, A290, H⟩ := H
            replace H : (if 0 ≤ (wrap64 (a2 - 7)) then (if (wrap64 (a2 - 7)) < (l0.length : Int) then ((demurralref03_ror.f (rd l0 (ji22)) 7).bind fun t179 => ((demurralref03_ror.f (rd l0 (ji22)) 18).bind fun t180 => (if 0 ≤ (wrap64 (a2 - 16)) then (if (wrap64 (a2 - 16)) < (l0.length : Int) then (some (((((((Go.bits .xor .u32 (Go.bits .xor .u32 t176 t177) ((rd l0 (ji25)) / 1024)) + (rd l0 (wrap64 (a2 - 7)))) % 4294967296) + (Go.bits .xor .u32 (Go.bits .xor .u32 t179 t180) ((rd l0 (ji22)) / 8))) % 4294967296) + (rd l0 (wrap64 (a2 - 16)))) % 4294967296)) else (none)) else (none)))) else (none)) else (none)) = some r := H
            have A29 := Aside0.mk A290
            clear A290
            obtain ⟨ji30, hji30⟩ : ∃ j_ : Int, (wrap64 (a2 - 7)) = j_ := ⟨_, rfl⟩
            replace H : (if 0 ≤ (ji30) then (if (ji30) < (l0.length : Int) then ((demurralref03_ror.f (rd l0 (ji22)) 7).bind fun t179 => ((demurralref03_ror.f (rd l0 (ji22)) 18).bind fun t180 => (if 0 ≤ (wrap64 (a2 - 16)) then (if (wrap64 (a2 - 16)) < (l0.length : Int) then (some (((((((Go.bits .xor .u32 (Go.bits .xor .u32 t176 t177) ((rd l0 (ji25)) / 1024)) + (rd l0 (ji30))) % 4294967296) + (Go.bits .xor .u32 (Go.bits .xor .u32 t179 t180) ((rd l0 (ji22)) / 8))) % 4294967296) + (rd l0 (wrap64 (a2 - 16)))) % 4294967296)) else (none)) else (none)))) else (none)) else (none)) = some r := by first | (rw [hji30] at H; exact H) | (simp only [hji30] at H ⊢; exact H)
            (try rw [hji30] at A28)
            (try rw [hji30] at A29)
            have hji30w : (IntKind.i64.wrap (a2 - 7)) = ji30 := (i64_w _).trans hji30
            by_cases c31 : 0 ≤ (ji30)
            · rw [if_pos c31] at H
              have c31b0 : decide (0 ≤ (ji30)) = true := decide_eq_true c31
              clear c31
              by_cases c32 : (ji30) < (l0.length : Int)
              · rw [if_pos c32] at H
                have c32b0 : decide ((ji30) < (l0.length : Int)) = true := decide_eq_true c32
                clear c32
                replace H := Option.bind_eq_some_iff.mp H
                obtain ⟨t179, A330, H⟩ := H
                replace H : ((demurralref03_ror.f (rd l0 (ji22)) 18).bind fun t180 => (if 0 ≤ (wrap64 (a2 - 16)) then (if (wrap64 (a2 - 16)) < (l0.length : Int) then (some (((((((Go.bits .xor .u32 (Go.bits .xor .u32 t176 t177) ((rd l0 (ji25)) / 1024)) + (rd l0 (ji30))) % 4294967296) + (Go.bits .xor .u32 (Go.bits .xor .u32 t179 t180) ((rd l0 (ji22)) / 8))) % 4294967296) + (rd l0 (wrap64 (a2 - 16)))) % 4294967296)) else (none)) else (none))) = some r := H
                have A33 := Aside0.mk A330
                clear A330
                replace H := Option.bind_eq_some_iff.mp H
                obtain ⟨t180, A340, H⟩ := H
                replace H : (if 0 ≤ (wrap64 (a2 - 16)) then (if (wrap64 (a2 - 16)) < (l0.length : Int) then (some (((((((Go.bits .xor .u32 (Go.bits .xor .u32 t176 t177) ((rd l0 (ji25)) / 1024)) + (rd l0 (ji30))) % 4294967296) + (Go.bits .xor .u32 (Go.bits .xor .u32 t179 t180) ((rd l0 (ji22)) / 8))) % 4294967296) + (rd l0 (wrap64 (a2 - 16)))) % 4294967296)) else (none)) else (none)) = some r := H
                have A34 := Aside0.mk A340
                clear A340
                obtain ⟨ji35, hji35⟩ : ∃ j_ : Int, (wrap64 (a2 - 16)) = j_ := ⟨_, rfl⟩
                replace H : (if 0 ≤ (ji35) then (if (ji35) < (l0.length : Int) then (some (((((((Go.bits .xor .u32 (Go.bits .xor .u32 t176 t177) ((rd l0 (ji25)) / 1024)) + (rd l0 (ji30))) % 4294967296) + (Go.bits .xor .u32 (Go.bits .xor .u32 t179 t180) ((rd l0 (ji22)) / 8))) % 4294967296) + (rd l0 (ji35))) % 4294967296)) else (none)) else (none)) = some r := by first | (rw [hji35] at H; exact H) | (simp only [hji35] at H ⊢; exact H)
                (try rw [hji35] at A28)
                (try rw [hji35] at A29)
                (try rw [hji35] at A33)
                (try rw [hji35] at A34)
                have hji35w : (IntKind.i64.wrap (a2 - 16)) = ji35 := (i64_w _).trans hji35
                by_cases c36 : 0 ≤ (ji35)
                · rw [if_pos c36] at H
                  have c36b0 : decide (0 ≤ (ji35)) = true := decide_eq_true c36
                  clear c36
                  by_cases c37 : (ji35) < (l0.length : Int)
                  · rw [if_pos c37] at H
                    have c37b0 : decide ((ji35) < (l0.length : Int)) = true := decide_eq_true c37
                    clear c37
                    obtain rfl := Option.some.inj H
                    have p174 : 0 ≤ ((ji22) : Int) := of_decide_eq_true (by first | (with_reducible assumption) | assumption)
                    have q174 : (ji22) < (l0.length : Int) := of_decide_eq_true (by first | (with_reducible assumption) | assumption)
                    obtain ⟨ad174, e174, hx174_0⟩ := Kd.at_int HR0.out (ji22) p174 q174
                    cases e174
                    replace p174 := eq_true p174
                    replace q174 := eq_true q174
                    have p175 : 0 ≤ ((ji25) : Int) := of_decide_eq_true (by first | (with_reducible assumption) | assumption)
                    have q175 : (ji25) < (l0.length : Int) := of_decide_eq_true (by first | (with_reducible assumption) | assumption)
                    obtain ⟨ad175, e175, hx175_0⟩ := Kd.at_int HR0.out (ji25) p175 q175
                    obtain rfl : ad174 = ad175 := (by injection e175)
                    replace p175 := eq_true p175
                    replace q175 := eq_true q175
                    go_enter Tryd.func89, Tryd.ntmps89
                    try go_wp2
                    have n0_ := Aside0.mk (below_drew1 HB.out)
                    clear HB
                    have HB := n0_
                    clear n0_
                    have p178 : 0 ≤ ((ji30) : Int) := of_decide_eq_true (by first | (with_reducible assumption) | assumption)
                    have q178 : (ji30) < (l0.length : Int) := of_decide_eq_true (by first | (with_reducible assumption) | assumption)
                    obtain ⟨ad178, e178, hx178_0⟩ := Kd.at_int HR0.out (ji30) p178 q178
                    have hw178_0 := hx178_0
                    obtain rfl : ad174 = ad178 := (by injection e178)
                    replace hx178_0 := (HB.out.cell (World.block_lt_of_cell? w _ hx178_0)).trans hx178_0
                    replace p178 := eq_true p178
                    replace q178 := eq_true q178
                    have p181 : 0 ≤ ((ji35) : Int) := of_decide_eq_true (by first | (with_reducible assumption) | assumption)
                    have q181 : (ji35) < (l0.length : Int) := of_decide_eq_true (by first | (with_reducible assumption) | assumption)
                    obtain ⟨ad181, e181, hx181_0⟩ := Kd.at_int HR0.out (ji35) p181 q181
                    have hw181_0 := hx181_0
                    obtain rfl : ad174 = ad181 := (by injection e181)
                    replace hx181_0 := (HB.out.cell (World.block_lt_of_cell? w _ hx181_0)).trans hx181_0
                    replace p181 := eq_true p181
                    replace q181 := eq_true q181
                    refine start_ (n := 30) (S := fun w' => w'.cell? (ad174.add ((ji30)).toNat) = some (.int .u32 (rd l0 (ji30))) ∧ w'.cell? (ad174.add ((ji35)).toNat) = some (.int .u32 (rd l0 (ji35)))) (ds := []) #[false, false, false, false, false, false, false, false, false, false, false, false, false, false, false, false, false, false, false, false, false, false, false, false, false, false, false, false, false, false] (by kernel_rfl) rfl rfl ⟨((HB.out.cell (World.block_lt_of_cell? w _ hw178_0)).trans hw178_0), ((HB.out.cell (World.block_lt_of_cell? w _ hw181_0)).trans hw181_0)⟩ (fun hHeld => ?_); refine with_tabW demurralref03_word.tab5 demurralref03_word.bits5 (fun HT_ HW_ => ?_)
                    generalize w.drew = w38 at HB hx178_0 hx181_0 hHeld ⊢
                    refine pure_ (i := 0) (N := some 50) (v := ?_) (a' := ?_) #[true, false, false, false, false, false, false, false, false, false, false, false, false, false, false, false, false, false, false, false, false, false, false, false, false, false, false, false, false, false] rfl rfl (any_of HT_.out (by kernel_rfl)) (fun _ _ _ h => h) (Or.inl ⟨by rfl, ?_⟩) ?_ ?_
                    rotate_left
                    · intro w'
                      go_simp
                      with_reducible rfl
                    rotate_left
                    · simp only [Act.put, List.setIfInBounds_toArray, List.set_cons_zero, List.set_cons_succ, i64_w, i32_w]
                      rfl
                    refine pure_ (i := 2) (N := some 52) (v := ?_) (a' := ?_) #[true, false, true, false, false, false, false, false, false, false, false, false, false, false, false, false, false, false, false, false, false, false, false, false, false, false, false, false, false, false] rfl rfl (any_of HT_.out (by kernel_rfl)) (fun _ _ _ h => h) (Or.inl ⟨by rfl, ?_⟩) ?_ ?_
                    rotate_left
                    · intro w'
                      go_simp
                      with_reducible rfl
                    rotate_left
                    · simp only [Act.put, List.setIfInBounds_toArray, List.set_cons_zero, List.set_cons_succ, i64_w, i32_w]
                      rfl
                    refine pure_ (i := 5) (N := some 55) (v := ?_) (a' := ?_) #[true, false, true, false, false, true, false, false, false, false, false, false, false, false, false, false, false, false, false, false, false, false, false, false, false, false, false, false, false, false] rfl rfl (any_of HT_.out (by kernel_rfl)) (fun _ _ _ h => h) (Or.inl ⟨by rfl, ?_⟩) ?_ ?_
                    rotate_left
                    · intro w'
                      go_simp
                      with_reducible rfl
                    rotate_left
                    · simp only [Act.put, List.setIfInBounds_toArray, List.set_cons_zero, List.set_cons_succ, i64_w, i32_w]
                      rfl
                    refine pure_ (i := 6) (N := some 56) (v := ?_) (a' := ?_) #[true, false, true, false, false, true, true, false, false, false, false, false, false, false, false, false, false, false, false, false, false, false, false, false, false, false, false, false, false, false] rfl rfl (any_of HT_.out (by kernel_rfl)) (fun _ _ _ h => h) (Or.inl ⟨by rfl, ?_⟩) ?_ ?_
                    rotate_left
                    · intro w'
                      go_simp
                      with_reducible rfl
                    rotate_left
                    · simp only [Act.put, List.setIfInBounds_toArray, List.set_cons_zero, List.set_cons_succ, i64_w, i32_w]
                      rfl
                    refine pure_ (i := 8) (N := some 58) (v := ?_) (a' := ?_) #[true, false, true, false, false, true, true, false, true, false, false, false, false, false, false, false, false, false, false, false, false, false, false, false, false, false, false, false, false, false] rfl rfl (any_of HT_.out (by kernel_rfl)) (fun _ _ _ h => h) (Or.inl ⟨by rfl, ?_⟩) ?_ ?_
                    rotate_left
                    · intro w'
                      go_simp
                      with_reducible rfl
                    rotate_left
                    · simp only [Act.put, List.setIfInBounds_toArray, List.set_cons_zero, List.set_cons_succ, i64_w, i32_w]
                      rfl
                    refine pure_ (i := 9) (N := some 59) (v := ?_) (a' := ?_) #[true, false, true, false, false, true, true, false, true, true, false, false, false, false, false, false, false, false, false, false, false, false, false, false, false, false, false, false, false, false] rfl rfl (any_of HT_.out (by kernel_rfl)) (fun _ _ _ h => h) (Or.inl ⟨by rfl, ?_⟩) ?_ ?_
                    rotate_left
                    · intro w'
                      go_simp
                      with_reducible rfl
                    rotate_left
                    · simp only [Act.put, List.setIfInBounds_toArray, List.set_cons_zero, List.set_cons_succ, i64_w, i32_w]
                      rfl
                    refine pure_ (i := 10) (N := some 60) (v := ?_) (a' := ?_) #[true, false, true, false, false, true, true, false, true, true, true, false, false, false, false, false, false, false, false, false, false, false, false, false, false, false, false, false, false, false] rfl rfl (any_of HT_.out (by kernel_rfl)) (fun _ _ _ h => h) (Or.inl ⟨by rfl, ?_⟩) ?_ ?_
                    rotate_left
                    · intro w'
                      go_simp
                      with_reducible rfl
                    rotate_left
                    · simp only [Act.put, List.setIfInBounds_toArray, List.set_cons_zero, List.set_cons_succ, i64_w, i32_w]
                      rfl
                    refine pure_ (i := 11) (N := some 61) (v := ?_) (a' := ?_) #[true, false, true, false, false, true, true, false, true, true, true, true, false, false, false, false, false, false, false, false, false, false, false, false, false, false, false, false, false, false] rfl rfl (any_of HT_.out (by kernel_rfl)) (fun _ _ _ h => h) (Or.inl ⟨by rfl, ?_⟩) ?_ ?_
                    rotate_left
                    · intro w'
                      go_simp
                      with_reducible rfl
                    rotate_left
                    · simp only [Act.put, List.setIfInBounds_toArray, List.set_cons_zero, List.set_cons_succ, i64_w, i32_w]
                      rfl
                    refine pure_ (i := 14) (N := some 64) (v := ?_) (a' := ?_) #[true, false, true, false, false, true, true, false, true, true, true, true, false, false, true, false, false, false, false, false, false, false, false, false, false, false, false, false, false, false] rfl rfl (any_of HT_.out (by kernel_rfl)) (fun _ _ _ h => h) (Or.inl ⟨by rfl, ?_⟩) ?_ ?_
                    rotate_left
                    · intro w'
                      go_simp
                      with_reducible rfl
                    rotate_left
                    · simp only [Act.put, List.setIfInBounds_toArray, List.set_cons_zero, List.set_cons_succ, i64_w, i32_w]
                      rfl
                    refine pure_ (i := 16) (N := some 66) (v := ?_) (a' := ?_) #[true, false, true, false, false, true, true, false, true, true, true, true, false, false, true, false, true, false, false, false, false, false, false, false, false, false, false, false, false, false] rfl rfl (any_of HT_.out (by kernel_rfl)) (fun _ _ _ h => h) (Or.inl ⟨by rfl, ?_⟩) ?_ ?_
                    rotate_left
                    · intro w'
                      go_simp
                      with_reducible rfl
                    rotate_left
                    · simp only [Act.put, List.setIfInBounds_toArray, List.set_cons_zero, List.set_cons_succ, i64_w, i32_w]
                      rfl
                    refine pure_ (i := 19) (N := some 69) (v := ?_) (a' := ?_) #[true, false, true, false, false, true, true, false, true, true, true, true, false, false, true, false, true, false, false, true, false, false, false, false, false, false, false, false, false, false] rfl rfl (any_of HT_.out (by kernel_rfl)) (fun _ _ _ h => h) (Or.inl ⟨by rfl, ?_⟩) ?_ ?_
                    rotate_left
                    · intro w'
                      go_simp
                      with_reducible rfl
                    rotate_left
                    · simp only [Act.put, List.setIfInBounds_toArray, List.set_cons_zero, List.set_cons_succ, i64_w, i32_w]
                      rfl
                    refine pure_ (i := 20) (N := some 70) (v := ?_) (a' := ?_) #[true, false, true, false, false, true, true, false, true, true, true, true, false, false, true, false, true, false, false, true, true, false, false, false, false, false, false, false, false, false] rfl rfl (any_of HT_.out (by kernel_rfl)) (fun _ _ _ h => h) (Or.inl ⟨by rfl, ?_⟩) ?_ ?_
                    rotate_left
                    · intro w'
                      go_simp
                      with_reducible rfl
                    rotate_left
                    · simp only [Act.put, List.setIfInBounds_toArray, List.set_cons_zero, List.set_cons_succ, i64_w, i32_w]
                      rfl
                    refine pure_ (i := 23) (N := some 73) (v := ?_) (a' := ?_) #[true, false, true, false, false, true, true, false, true, true, true, true, false, false, true, false, true, false, false, true, true, false, false, true, false, false, false, false, false, false] rfl rfl (any_of HT_.out (by kernel_rfl)) (fun _ _ _ h => h) (Or.inl ⟨by rfl, ?_⟩) ?_ ?_
                    rotate_left
                    · intro w'
                      go_simp
                      with_reducible rfl
                    rotate_left
                    · simp only [Act.put, List.setIfInBounds_toArray, List.set_cons_zero, List.set_cons_succ, i64_w, i32_w]
                      rfl
                    refine pure_ (i := 24) (N := some 74) (v := ?_) (a' := ?_) #[true, false, true, false, false, true, true, false, true, true, true, true, false, false, true, false, true, false, false, true, true, false, false, true, true, false, false, false, false, false] rfl rfl (any_of HT_.out (by kernel_rfl)) (fun _ _ _ h => h) (Or.inl ⟨by rfl, ?_⟩) ?_ ?_
                    rotate_left
                    · intro w'
                      go_simp
                      with_reducible rfl
                    rotate_left
                    · simp only [Act.put, List.setIfInBounds_toArray, List.set_cons_zero, List.set_cons_succ, i64_w, i32_w]
                      rfl
                    refine pure_ (i := 25) (N := some 75) (v := ?_) (a' := ?_) #[true, false, true, false, false, true, true, false, true, true, true, true, false, false, true, false, true, false, false, true, true, false, false, true, true, true, false, false, false, false] rfl rfl (any_of HT_.out (by kernel_rfl)) (fun _ _ _ h => h) (Or.inl ⟨by rfl, ?_⟩) ?_ ?_
                    rotate_left
                    · intro w'
                      go_simp
                      with_reducible rfl
                    rotate_left
                    · simp only [Act.put, List.setIfInBounds_toArray, List.set_cons_zero, List.set_cons_succ, i64_w, i32_w]
                      rfl
                    refine pure_ (i := 26) (N := some 76) (v := ?_) (a' := ?_) #[true, false, true, false, false, true, true, false, true, true, true, true, false, false, true, false, true, false, false, true, true, false, false, true, true, true, true, false, false, false] rfl rfl (any_of HT_.out (by kernel_rfl)) (fun _ _ _ h => h) (Or.inl ⟨by rfl, ?_⟩) ?_ ?_
                    rotate_left
                    · intro w'
                      go_simp
                      with_reducible rfl
                    rotate_left
                    · simp only [Act.put, List.setIfInBounds_toArray, List.set_cons_zero, List.set_cons_succ, i64_w, i32_w]
                      rfl
                    refine take_ (i := 12) (N := some 62) (v := ?_) (a' := ?_) #[true, false, true, false, false, true, true, false, true, true, true, true, true, false, true, false, true, false, false, true, true, false, false, true, true, true, true, false, false, false] rfl rfl (take_ofW HT_.out HW_.out (by kernel_rfl)) (fun _ _ _ h => h) (Or.inl ⟨by rfl, ?_⟩) hHeld ?_ ?_
                    rotate_left
                    · rintro w' ⟨s0, s1⟩
                      go_simp
                      with_reducible rfl
                    rotate_left
                    · simp only [Act.put, List.setIfInBounds_toArray, List.set_cons_zero, List.set_cons_succ, i64_w, i32_w]
                      rfl
                    refine take_ (i := 27) (N := some 77) (v := ?_) (a' := ?_) #[true, false, true, false, false, true, true, false, true, true, true, true, true, false, true, false, true, false, false, true, true, false, false, true, true, true, true, true, false, false] rfl rfl (take_ofW HT_.out HW_.out (by kernel_rfl)) (fun _ _ _ h => h) (Or.inl ⟨by rfl, ?_⟩) hHeld ?_ ?_
                    rotate_left
                    · rintro w' ⟨s0, s1⟩
                      go_simp
                      with_reducible rfl
                    rotate_left
                    · simp only [Act.put, List.setIfInBounds_toArray, List.set_cons_zero, List.set_cons_succ, i64_w, i32_w]
                      rfl
                    refine one_ (i := 1) (N := some 51) #[true, true, true, false, false, true, true, false, true, true, true, true, true, false, true, false, true, false, false, true, true, false, false, true, true, true, true, true, false, false] rfl rfl (one_of HT_.out (by kernel_rfl)) (by decide) (fun K hK => ?_)
                    refine goes_ Tryd.func90 (by kernel_rfl) rfl #[.int .u32 (rd l0 (ji25)), .int .u32 17] (by rfl) rfl rfl (by (try simp only [List.map_toArray, List.map_cons, List.map_nil]); first | done | (simp only [hji25]; rfl) | rfl | (simp only [List.length_drop, List.length_take]; rfl)) ?_
                    with_reducible refine (demurralref03_ror.calls (rd l0 (ji25)) 17 t176 _ A28.out).mono ?_
                    rintro e w' ⟨rfl, ⟨nd, rfl⟩⟩
                    refine ⟨_, rfl, ?_⟩
                    refine hK.out _ _ ⟨((HB.out.cell (World.block_lt_of_cell? w _ hw178_0)).trans hw178_0), ((HB.out.cell (World.block_lt_of_cell? w _ hw181_0)).trans hw181_0)⟩ (fun hHeld => ?_)
                    clear hK K
                    refine norm_ (a' := ?_) ?_ ?_
                    rotate_left
                    · show Act.put _ (some 51) _ = _
                      simp only [Act.put, List.setIfInBounds_toArray, List.set_cons_zero, List.set_cons_succ, i64_w, i32_w]
                      rfl
                    refine one_ (i := 3) (N := some 53) #[true, true, true, true, false, true, true, false, true, true, true, true, true, false, true, false, true, false, false, true, true, false, false, true, true, true, true, true, false, false] rfl rfl (one_of HT_.out (by kernel_rfl)) (by decide) (fun K hK => ?_)
                    refine goes_ Tryd.func90 (by kernel_rfl) rfl #[.int .u32 (rd l0 (ji25)), .int .u32 19] (by rfl) rfl rfl (by (try simp only [List.map_toArray, List.map_cons, List.map_nil]); first | done | (simp only [hji25]; rfl) | rfl | (simp only [List.length_drop, List.length_take]; rfl)) ?_
                    with_reducible refine (demurralref03_ror.calls (rd l0 (ji25)) 19 t177 _ A29.out).mono ?_
                    rintro e w' ⟨rfl, ⟨nd, rfl⟩⟩
                    refine ⟨_, rfl, ?_⟩
                    refine hK.out _ _ ⟨((HB.out.cell (World.block_lt_of_cell? w _ hw178_0)).trans hw178_0), ((HB.out.cell (World.block_lt_of_cell? w _ hw181_0)).trans hw181_0)⟩ (fun hHeld => ?_)
                    clear hK K
                    refine norm_ (a' := ?_) ?_ ?_
                    rotate_left
                    · show Act.put _ (some 53) _ = _
                      simp only [Act.put, List.setIfInBounds_toArray, List.set_cons_zero, List.set_cons_succ, i64_w, i32_w]
                      rfl
                    refine pure_ (i := 4) (N := some 54) (v := ?_) (a' := ?_) #[true, true, true, true, true, true, true, false, true, true, true, true, true, false, true, false, true, false, false, true, true, false, false, true, true, true, true, true, false, false] rfl rfl (any_of HT_.out (by kernel_rfl)) (fun _ _ _ h => h) (Or.inl ⟨by rfl, ?_⟩) ?_ ?_
                    rotate_left
                    · intro w'
                      go_simp
                      with_reducible rfl
                    rotate_left
                    · simp only [Act.put, List.setIfInBounds_toArray, List.set_cons_zero, List.set_cons_succ, i64_w, i32_w]
                      rfl
                    refine pure_ (i := 7) (N := some 57) (v := ?_) (a' := ?_) #[true, true, true, true, true, true, true, true, true, true, true, true, true, false, true, false, true, false, false, true, true, false, false, true, true, true, true, true, false, false] rfl rfl (any_of HT_.out (by kernel_rfl)) (fun _ _ _ h => h) (Or.inl ⟨by rfl, ?_⟩) ?_ ?_
                    rotate_left
                    · intro w'
                      go_simp
                      with_reducible rfl
                    rotate_left
                    · simp only [Act.put, List.setIfInBounds_toArray, List.set_cons_zero, List.set_cons_succ, i64_w, i32_w]
                      rfl
                    refine pure_ (i := 13) (N := some 63) (v := ?_) (a' := ?_) #[true, true, true, true, true, true, true, true, true, true, true, true, true, true, true, false, true, false, false, true, true, false, false, true, true, true, true, true, false, false] rfl rfl (any_of HT_.out (by kernel_rfl)) (fun _ _ _ h => h) (Or.inl ⟨by rfl, ?_⟩) ?_ ?_
                    rotate_left
                    · intro w'
                      go_simp
                      with_reducible rfl
                    rotate_left
                    · simp only [Act.put, List.setIfInBounds_toArray, List.set_cons_zero, List.set_cons_succ, i64_w, i32_w]
                      rfl
                    refine one_ (i := 15) (N := some 65) #[true, true, true, true, true, true, true, true, true, true, true, true, true, true, true, true, true, false, false, true, true, false, false, true, true, true, true, true, false, false] rfl rfl (one_of HT_.out (by kernel_rfl)) (by decide) (fun K hK => ?_)
                    refine goes_ Tryd.func90 (by kernel_rfl) rfl #[.int .u32 (rd l0 (ji22)), .int .u32 7] (by rfl) rfl rfl (by (try simp only [List.map_toArray, List.map_cons, List.map_nil]); first | done | (simp only [hji22]; rfl) | rfl | (simp only [List.length_drop, List.length_take]; rfl)) ?_
                    with_reducible refine (demurralref03_ror.calls (rd l0 (ji22)) 7 t179 _ A33.out).mono ?_
                    rintro e w' ⟨rfl, ⟨nd, rfl⟩⟩
                    refine ⟨_, rfl, ?_⟩
                    refine hK.out _ _ ⟨((HB.out.cell (World.block_lt_of_cell? w _ hw178_0)).trans hw178_0), ((HB.out.cell (World.block_lt_of_cell? w _ hw181_0)).trans hw181_0)⟩ (fun hHeld => ?_)
                    clear hK K
                    refine norm_ (a' := ?_) ?_ ?_
                    rotate_left
                    · show Act.put _ (some 65) _ = _
                      simp only [Act.put, List.setIfInBounds_toArray, List.set_cons_zero, List.set_cons_succ, i64_w, i32_w]
                      rfl
                    refine one_ (i := 17) (N := some 67) #[true, true, true, true, true, true, true, true, true, true, true, true, true, true, true, true, true, true, false, true, true, false, false, true, true, true, true, true, false, false] rfl rfl (one_of HT_.out (by kernel_rfl)) (by decide) (fun K hK => ?_)
                    refine goes_ Tryd.func90 (by kernel_rfl) rfl #[.int .u32 (rd l0 (ji22)), .int .u32 18] (by rfl) rfl rfl (by (try simp only [List.map_toArray, List.map_cons, List.map_nil]); first | done | (simp only [hji22]; rfl) | rfl | (simp only [List.length_drop, List.length_take]; rfl)) ?_
                    with_reducible refine (demurralref03_ror.calls (rd l0 (ji22)) 18 t180 _ A34.out).mono ?_
                    rintro e w' ⟨rfl, ⟨nd, rfl⟩⟩
                    refine ⟨_, rfl, ?_⟩
                    refine hK.out _ _ ⟨((HB.out.cell (World.block_lt_of_cell? w _ hw178_0)).trans hw178_0), ((HB.out.cell (World.block_lt_of_cell? w _ hw181_0)).trans hw181_0)⟩ (fun hHeld => ?_)
                    clear hK K
                    refine norm_ (a' := ?_) ?_ ?_
                    rotate_left
                    · show Act.put _ (some 67) _ = _
                      simp only [Act.put, List.setIfInBounds_toArray, List.set_cons_zero, List.set_cons_succ, i64_w, i32_w]
                      rfl
                    refine pure_ (i := 18) (N := some 68) (v := ?_) (a' := ?_) #[true, true, true, true, true, true, true, true, true, true, true, true, true, true, true, true, true, true, true, true, true, false, false, true, true, true, true, true, false, false] rfl rfl (any_of HT_.out (by kernel_rfl)) (fun _ _ _ h => h) (Or.inl ⟨by rfl, ?_⟩) ?_ ?_
                    rotate_left
                    · intro w'
                      go_simp
                      with_reducible rfl
                    rotate_left
                    · simp only [Act.put, List.setIfInBounds_toArray, List.set_cons_zero, List.set_cons_succ, i64_w, i32_w]
                      rfl
                    refine pure_ (i := 21) (N := some 71) (v := ?_) (a' := ?_) #[true, true, true, true, true, true, true, true, true, true, true, true, true, true, true, true, true, true, true, true, true, true, false, true, true, true, true, true, false, false] rfl rfl (any_of HT_.out (by kernel_rfl)) (fun _ _ _ h => h) (Or.inl ⟨by rfl, ?_⟩) ?_ ?_
                    rotate_left
                    · intro w'
                      go_simp
                      with_reducible rfl
                    rotate_left
                    · simp only [Act.put, List.setIfInBounds_toArray, List.set_cons_zero, List.set_cons_succ, i64_w, i32_w]
                      rfl
                    refine pure_ (i := 22) (N := some 72) (v := ?_) (a' := ?_) #[true, true, true, true, true, true, true, true, true, true, true, true, true, true, true, true, true, true, true, true, true, true, true, true, true, true, true, true, false, false] rfl rfl (any_of HT_.out (by kernel_rfl)) (fun _ _ _ h => h) (Or.inl ⟨by rfl, ?_⟩) ?_ ?_
                    rotate_left
                    · intro w'
                      go_simp
                      with_reducible rfl
                    rotate_left
                    · simp only [Act.put, List.setIfInBounds_toArray, List.set_cons_zero, List.set_cons_succ, i64_w, i32_w]
                      rfl
                    refine pure_ (i := 28) (N := some 78) (v := ?_) (a' := ?_) #[true, true, true, true, true, true, true, true, true, true, true, true, true, true, true, true, true, true, true, true, true, true, true, true, true, true, true, true, true, false] rfl rfl (any_of HT_.out (by kernel_rfl)) (fun _ _ _ h => h) (Or.inl ⟨by rfl, ?_⟩) ?_ ?_
                    rotate_left
                    · intro w'
                      go_simp
                      with_reducible rfl
                    rotate_left
                    · simp only [Act.put, List.setIfInBounds_toArray, List.set_cons_zero, List.set_cons_succ, i64_w, i32_w]
                      rfl
                    refine pure_ (i := 29) (N := some 6) (v := ?_) (a' := ?_) #[true, true, true, true, true, true, true, true, true, true, true, true, true, true, true, true, true, true, true, true, true, true, true, true, true, true, true, true, true, true] rfl rfl (any_of HT_.out (by kernel_rfl)) (fun _ _ _ h => h) (Or.inl ⟨by rfl, ?_⟩) ?_ ?_
                    rotate_left
                    · intro w'
                      go_simp
                      with_reducible rfl
                    rotate_left
                    · simp only [Act.put, List.setIfInBounds_toArray, List.set_cons_zero, List.set_cons_succ, i64_w, i32_w]
                      rfl
                    refine done_ (done_of HT_.out (by kernel_rfl)) ?_
                    try go_wp2
                    go_ret
                    exact ⟨by first | rfl | (have hw_ : ∀ n, IntKind.u32.wrap n = n % 4294967296 := (fun _ => rfl); simp only [hw_]; refine congrArg (fun n => Ending.returned (Value.int .u32 n)) ?_; omega) | (simp [errW_none, errW_some] <;> rfl) | (simp only [← hji22, ← hji25, ← hji30, ← hji35]; first | rfl | (simp [errW_none, errW_some] <;> rfl)) | (simp [*, errW_none, errW_some] <;> rfl), by repeat (first | (with_reducible first | exact HB.out | apply below_alloc | apply pw_below_drewN | apply below_drew1) | exact HB.out)⟩
                  · rw [if_neg c37] at H
                    exact absurd H (by simp)
                · rw [if_neg c36] at H
                  exact absurd H (by simp)
              · rw [if_neg c32] at H
                exact absurd H (by simp)
            · rw [if_neg c31] at H
              exact absurd H (by simp)
          · rw [if_neg c27] at H
            exact absurd H (by simp)
        · rw [if_neg c26] at H
          exact absurd H (by simp)
      · rw [if_neg c24] at H
        exact absurd H (by simp)
    · rw [if_neg c23] at H
      exact absurd H (by simp)

end Go.Proofs.YtpafocjmheemjaaDoor.PDigestSums

import Derived.Test.YtfghjahmnjghgaaPFrx0
namespace Go.Proofs.Ytfghjahmnjghgaa.PFr
open Go.RowKit Go.Proofs.YtfghjahmnjghgaaW.PrintWords Go.Proofs.YtfghjahmnjghgaaW.PrintLast Go.Proofs.YtfghjahmnjghgaaW.PrintMore
attribute [local go_sem] max2_int min2_int max_two min_two max_three min_three max_four min_four   -- for this text's walks alone
set_option linter.unusedVariables false
set_option linter.unusedSimpArgs false

/-! ### slices_Equal_string_string: function 31 -/
def slices_Equal_string_string.l0 : Nat → List ByteArray → List ByteArray → Int → Int → Option (Bool)
  | 0, _, _, _, _ => none
  | k + 1, x0, x1, x12, x13 => if x13 < x12 then (if 0 ≤ x13 then (if x13 < (x0.length : Int) then (if x13 < (x1.length : Int) then (if (rdOf ByteArray.empty x0 x13).toList = (rdOf ByteArray.empty x1 x13).toList then (slices_Equal_string_string.l0 k x0 x1 x12 (wrap64 (x13 + 1))) else (some false)) else (none)) else (none)) else (none)) else (some true)
def slices_Equal_string_string.f (k : Nat) (l0 : List ByteArray) (l1 : List ByteArray) : Option (Bool) := if (l0.length : Int) = (l1.length : Int) then (slices_Equal_string_string.l0 k l0 l1 (l0.length : Int) 0) else (some false)
theorem slices_Equal_string_string.mono_l : ∀ k, (∀ y0 y1 y2 y3, LeO (slices_Equal_string_string.l0 k y0 y1 y2 y3) (slices_Equal_string_string.l0 (k + 1) y0 y1 y2 y3))
  | 0 => fun _ _ _ _ r h => by simp [slices_Equal_string_string.l0] at h
  | k + 1 => by
    have ih0 := slices_Equal_string_string.mono_l k
    · intro y0 y1 y2 y3
      unfold slices_Equal_string_string.l0
      repeat' first
      | (with_reducible exact ih0 _ _ _ _)
      | (with_reducible exact LeO.refl _)
      | (with_reducible exact LeO.none _)
      | (with_reducible refine LeO.ite ?_ ?_)
      | (with_reducible refine LeO.bind ?_ (fun _ => ?_))
      | exact ih0 _ _ _ _
      | exact LeO.none _
      | refine LeO.ite ?_ ?_
      | refine LeO.bind ?_ (fun _ => ?_)
theorem slices_Equal_string_string.mono : ∀ a0 a1 k, LeO (slices_Equal_string_string.f k a0 a1) (slices_Equal_string_string.f (k + 1) a0 a1) := by
  intro a0 a1 k
  have ih0 := slices_Equal_string_string.mono_l k
  unfold slices_Equal_string_string.f
  repeat' first
      | (with_reducible exact ih0 _ _ _ _)
      | (with_reducible exact LeO.refl _)
      | (with_reducible exact LeO.none _)
      | (with_reducible refine LeO.ite ?_ ?_)
      | (with_reducible refine LeO.bind ?_ (fun _ => ?_))
      | exact ih0 _ _ _ _
      | exact LeO.none _
      | refine LeO.ite ?_ ?_
      | refine LeO.bind ?_ (fun _ => ?_)
set_option maxHeartbeats 8000000 in
set_option maxRecDepth 100000 in
theorem slices_Equal_string_string.calls (k : Nat) (A0 : Option Addr) (c0 : Nat) (l0 : List ByteArray) (A1 : Option Addr) (c1 : Nat) (l1 : List ByteArray) (r : Bool) (w : World) (hr0 : Kd.C Kd.string w A0 l0.length l0) (hc0 : l0.length ≤ c0) (hr1 : Kd.C Kd.string w A1 l1.length l1) (hc1 : l1.length ≤ c1) (h : slices_Equal_string_string.f k l0 l1 = some r) :
    Calls Try.prog 31 #[.slice A0 l0.length c0, .slice A1 l1.length c1] w fun e w' => e = .returned (.bool r) ∧ Drawn0 w w' := by
  have HR0 := Aside0.mk hr0
  have HC0 := Aside0.mk hc0
  clear hr0 hc0
  have HR1 := Aside0.mk hr1
  have HC1 := Aside0.mk hc1
  clear hr1 hc1
  have H : (if (l0.length : Int) = (l1.length : Int) then (slices_Equal_string_string.l0 k l0 l1 (l0.length : Int) 0) else (some false)) = some r := h
  clear h
  by_cases c3 : (l0.length : Int) = (l1.length : Int)
  · rw [if_pos c3] at H
    have c3b0 : ((l0.length : Int) == (l1.length : Int)) = true := beq_iff_eq.mpr c3
    have c3b1 : ((l0.length : Int) != (l1.length : Int)) = false := bne_eq_false_iff_eq.mpr c3
    have c3b2 : (l0.length == l1.length) = true := by first | simpa using c3 | (simp at c3 ⊢; omega)
    clear c3
    have H' := Aside0.mk H
    clear H
    go_enter Try.func31, Try.ntmps31
    go_wp2
    repeat (go_quiet (fail); try go_wp2)
    go_loopg [13] k (fun kq v13 w' => ∃ (x13_1 : Int), v13 = .int .i64 x13_1 ∧ Aside0 (slices_Equal_string_string.l0 kq l0 l1 (l0.length : Int) x13_1 = some r) ∧ Aside0 (kq ≤ k) ∧ Drawn0 w w')
    case atStart => exact ⟨(0), (by first | rfl | (simp; done) | (simp [*]; done)), H', ⟨Nat.le_refl _⟩, by repeat (first | exact Drawn0.refl _ | apply Drawn0.step)⟩
    case round =>
      clear H'
      try clear c1
      try clear p2
      try clear c3
      try clear c3b0
      try clear c3b1
      try clear c3b2
      obtain ⟨x13_1, rfl, HA, HK1, ⟨m1, rfl⟩⟩ := hrel
      cases gk with
      | zero => exact absurd HA.out (by simp [slices_Equal_string_string.l0])
      | succ k1 =>
        have H := HA.out
        clear HA
        simp only [slices_Equal_string_string.l0] at H
        by_cases c4 : x13_1 < (l0.length : Int)
        · rw [if_pos c4] at H
          have c4b0 : decide (x13_1 < (l0.length : Int)) = true := decide_eq_true c4
          clear c4
          by_cases c5 : 0 ≤ x13_1
          · rw [if_pos c5] at H
            have c5b0 : decide (0 ≤ x13_1) = true := decide_eq_true c5
            clear c5
            by_cases c6 : x13_1 < (l0.length : Int)
            · rw [if_pos c6] at H
              have c6b0 : decide (x13_1 < (l0.length : Int)) = true := decide_eq_true c6
              clear c6
              by_cases c7 : x13_1 < (l1.length : Int)
              · rw [if_pos c7] at H
                have c7b0 : decide (x13_1 < (l1.length : Int)) = true := decide_eq_true c7
                clear c7
                by_cases c8 : (rdOf ByteArray.empty l0 x13_1).toList = (rdOf ByteArray.empty l1 x13_1).toList
                · rw [if_pos c8] at H
                  have c8b0 : ((rdOf ByteArray.empty l0 x13_1).toList == (rdOf ByteArray.empty l1 x13_1).toList) = true := beq_iff_eq.mpr c8
                  have c8b1 : ((rdOf ByteArray.empty l0 x13_1).toList != (rdOf ByteArray.empty l1 x13_1).toList) = false := bne_eq_false_iff_eq.mpr c8
                  clear c8
                  have H' := Aside0.mk H
                  clear H
                  have p106 : 0 ≤ (x13_1 : Int) := of_decide_eq_true (by first | (with_reducible assumption) | assumption)
                  have q106 : x13_1 < (l0.length : Int) := of_decide_eq_true (by first | (with_reducible assumption) | assumption)
                  obtain ⟨ad106, e106, hx106_0⟩ := Kd.at_string HR0.out x13_1 p106 q106
                  cases e106
                  replace p106 := eq_true p106
                  replace q106 := eq_true q106
                  have p107 : 0 ≤ (x13_1 : Int) := of_decide_eq_true (by first | (with_reducible assumption) | assumption)
                  have q107 : x13_1 < (l1.length : Int) := of_decide_eq_true (by first | (with_reducible assumption) | assumption)
                  obtain ⟨ad107, e107, hx107_0⟩ := Kd.at_string HR1.out x13_1 p107 q107
                  cases e107
                  replace p107 := eq_true p107
                  replace q107 := eq_true q107
                  go_wp2
                  repeat (go_quiet (fail); try go_wp2)
                  go_roundg k1
                  case measure => have := HK1.out; omega
                  case rel => exact ⟨(wrap64 (x13_1 + 1)), (by first | rfl | (simp; done) | (simp [*]; done)), H', ⟨by have := HK1.out; omega⟩, by repeat (first | exact Drawn0.refl _ | apply Drawn0.step)⟩
                · rw [if_neg c8] at H
                  have c8b0 : ((rdOf ByteArray.empty l0 x13_1).toList == (rdOf ByteArray.empty l1 x13_1).toList) = false := beq_eq_false_iff_ne.mpr c8
                  have c8b1 : ((rdOf ByteArray.empty l0 x13_1).toList != (rdOf ByteArray.empty l1 x13_1).toList) = true := bne_iff_ne.mpr c8
                  obtain rfl := Option.some.inj H
                  have p106 : 0 ≤ (x13_1 : Int) := of_decide_eq_true (by first | (with_reducible assumption) | assumption)
                  have q106 : x13_1 < (l0.length : Int) := of_decide_eq_true (by first | (with_reducible assumption) | assumption)
                  obtain ⟨ad106, e106, hx106_0⟩ := Kd.at_string HR0.out x13_1 p106 q106
                  cases e106
                  replace p106 := eq_true p106
                  replace q106 := eq_true q106
                  have p107 : 0 ≤ (x13_1 : Int) := of_decide_eq_true (by first | (with_reducible assumption) | assumption)
                  have q107 : x13_1 < (l1.length : Int) := of_decide_eq_true (by first | (with_reducible assumption) | assumption)
                  obtain ⟨ad107, e107, hx107_0⟩ := Kd.at_string HR1.out x13_1 p107 q107
                  cases e107
                  replace p107 := eq_true p107
                  replace q107 := eq_true q107
                  go_wp2
                  repeat (go_quiet (fail); try go_wp2)
                  go_ret
                  exact ⟨by first | rfl | (simp; done) | (simp [*]; done), by repeat (first | exact Drawn0.refl _ | apply Drawn0.step)⟩
              · rw [if_neg c7] at H
                exact absurd H (by simp)
            · rw [if_neg c6] at H
              exact absurd H (by simp)
          · rw [if_neg c5] at H
            exact absurd H (by simp)
        · rw [if_neg c4] at H
          have c4b0 : decide (x13_1 < (l0.length : Int)) = false := decide_eq_false c4
          clear c4
          obtain rfl := Option.some.inj H
          go_wp2
          repeat (go_quiet (fail); try go_wp2)
          go_ret
          exact ⟨by first | rfl | (simp; done) | (simp [*]; done), by repeat (first | exact Drawn0.refl _ | apply Drawn0.step)⟩
  · rw [if_neg c3] at H
    have c3b0 : ((l0.length : Int) == (l1.length : Int)) = false := beq_eq_false_iff_ne.mpr c3
    have c3b1 : ((l0.length : Int) != (l1.length : Int)) = true := bne_iff_ne.mpr c3
    have c3b2 : (l0.length == l1.length) = false := by first | simpa using c3 | (simp at c3 ⊢; omega)
    obtain rfl := Option.some.inj H
    go_enter Try.func31, Try.ntmps31
    go_wp2
    repeat (go_quiet (fail); try go_wp2)
    go_ret
    exact ⟨by first | rfl | (simp; done) | (simp [*]; done), by repeat (first | exact Drawn0.refl _ | apply Drawn0.step)⟩

/-! ### demurralref08_keys: function 30 -/
def demurralref08_keys.l0 : Nat → List ByteArray → List ByteArray → Int → Int → Option (Bool)
  | 0, _, _, _, _ => none
  | k + 1, x0, x5, x6, x7 => if x7 < x6 then (if 0 ≤ x7 then (if x7 < (x5.length : Int) then (if ((rdOf ByteArray.empty x5 x7).size : Int) = 32 then (demurralref08_keys.l0 k x0 x5 x6 (wrap64 (x7 + 1))) else (some false)) else (none)) else (none)) else (some (decide ((x0.length : Int) ≤ 32)))
def demurralref08_keys.f (k : Nat) (l0 : List ByteArray) : Option (Bool) := demurralref08_keys.l0 k l0 l0 (l0.length : Int) 0
theorem demurralref08_keys.mono_l : ∀ k, (∀ y0 y1 y2 y3, LeO (demurralref08_keys.l0 k y0 y1 y2 y3) (demurralref08_keys.l0 (k + 1) y0 y1 y2 y3))
  | 0 => fun _ _ _ _ r h => by simp [demurralref08_keys.l0] at h
  | k + 1 => by
    have ih0 := demurralref08_keys.mono_l k
    · intro y0 y1 y2 y3
      unfold demurralref08_keys.l0
      repeat' first
      | (with_reducible exact ih0 _ _ _ _)
      | (with_reducible exact LeO.refl _)
      | (with_reducible exact LeO.none _)
      | (with_reducible refine LeO.ite ?_ ?_)
      | (with_reducible refine LeO.bind ?_ (fun _ => ?_))
      | exact ih0 _ _ _ _
      | exact LeO.none _
      | refine LeO.ite ?_ ?_
      | refine LeO.bind ?_ (fun _ => ?_)
theorem demurralref08_keys.mono : ∀ a0 k, LeO (demurralref08_keys.f k a0) (demurralref08_keys.f (k + 1) a0) := by
  intro a0 k
  have ih0 := demurralref08_keys.mono_l k
  unfold demurralref08_keys.f
  repeat' first
      | (with_reducible exact ih0 _ _ _ _)
      | (with_reducible exact LeO.refl _)
      | (with_reducible exact LeO.none _)
      | (with_reducible refine LeO.ite ?_ ?_)
      | (with_reducible refine LeO.bind ?_ (fun _ => ?_))
      | exact ih0 _ _ _ _
      | exact LeO.none _
      | refine LeO.ite ?_ ?_
      | refine LeO.bind ?_ (fun _ => ?_)
set_option maxHeartbeats 8000000 in
set_option maxRecDepth 100000 in
theorem demurralref08_keys.calls (k : Nat) (A0 : Option Addr) (c0 : Nat) (l0 : List ByteArray) (r : Bool) (w : World) (hr0 : Kd.C Kd.string w A0 l0.length l0) (hc0 : l0.length ≤ c0) (h : demurralref08_keys.f k l0 = some r) :
    Calls Try.prog 30 #[.slice A0 l0.length c0] w fun e w' => e = .returned (.bool r) ∧ Drawn0 w w' := by
  have HR0 := Aside0.mk hr0
  have HC0 := Aside0.mk hc0
  clear hr0 hc0
  have H : (demurralref08_keys.l0 k l0 l0 (l0.length : Int) 0) = some r := h
  clear h
  have H' := Aside0.mk H
  clear H
  go_enter Try.func30, Try.ntmps30
  go_wp2
  go_loopg [7] k (fun kq v7 w' => ∃ (x7_1 : Int), v7 = .int .i64 x7_1 ∧ Aside0 (demurralref08_keys.l0 kq l0 l0 (l0.length : Int) x7_1 = some r) ∧ Aside0 (kq ≤ k) ∧ Drawn0 w w')
  case atStart => exact ⟨(0), (by first | rfl | (simp; done) | (simp [*]; done)), H', ⟨Nat.le_refl _⟩, by repeat (first | exact Drawn0.refl _ | apply Drawn0.step)⟩
  case round =>
    clear H'
    obtain ⟨x7_1, rfl, HA, HK1, ⟨m1, rfl⟩⟩ := hrel
    cases gk with
    | zero => exact absurd HA.out (by simp [demurralref08_keys.l0])
    | succ k1 =>
      have H := HA.out
      clear HA
      simp only [demurralref08_keys.l0] at H
      by_cases c2 : x7_1 < (l0.length : Int)
      · rw [if_pos c2] at H
        have c2b0 : decide (x7_1 < (l0.length : Int)) = true := decide_eq_true c2
        clear c2
        by_cases c3 : 0 ≤ x7_1
        · rw [if_pos c3] at H
          have c3b0 : decide (0 ≤ x7_1) = true := decide_eq_true c3
          clear c3
          by_cases c4 : x7_1 < (l0.length : Int)
          · rw [if_pos c4] at H
            have c4b0 : decide (x7_1 < (l0.length : Int)) = true := decide_eq_true c4
            clear c4
            by_cases c5 : ((rdOf ByteArray.empty l0 x7_1).size : Int) = 32
            · rw [if_pos c5] at H
              have c5b0 : (((rdOf ByteArray.empty l0 x7_1).size : Int) == 32) = true := beq_iff_eq.mpr c5
              have c5b1 : (((rdOf ByteArray.empty l0 x7_1).size : Int) != 32) = false := bne_eq_false_iff_eq.mpr c5
              clear c5
              have H' := Aside0.mk H
              clear H
              have p230 : 0 ≤ (x7_1 : Int) := of_decide_eq_true (by first | (with_reducible assumption) | assumption)
              have q230 : x7_1 < (l0.length : Int) := of_decide_eq_true (by first | (with_reducible assumption) | assumption)
              obtain ⟨ad230, e230, hx230_0⟩ := Kd.at_string HR0.out x7_1 p230 q230
              cases e230
              replace p230 := eq_true p230
              replace q230 := eq_true q230
              go_wp2
              go_roundg k1
              case measure => have := HK1.out; omega
              case rel => exact ⟨(wrap64 (x7_1 + 1)), (by first | rfl | (simp; done) | (simp [*]; done)), H', ⟨by have := HK1.out; omega⟩, by repeat (first | exact Drawn0.refl _ | apply Drawn0.step)⟩
            · rw [if_neg c5] at H
              have c5b0 : (((rdOf ByteArray.empty l0 x7_1).size : Int) == 32) = false := beq_eq_false_iff_ne.mpr c5
              have c5b1 : (((rdOf ByteArray.empty l0 x7_1).size : Int) != 32) = true := bne_iff_ne.mpr c5
              obtain rfl := Option.some.inj H
              have p230 : 0 ≤ (x7_1 : Int) := of_decide_eq_true (by first | (with_reducible assumption) | assumption)
              have q230 : x7_1 < (l0.length : Int) := of_decide_eq_true (by first | (with_reducible assumption) | assumption)
              obtain ⟨ad230, e230, hx230_0⟩ := Kd.at_string HR0.out x7_1 p230 q230
              cases e230
              replace p230 := eq_true p230
              replace q230 := eq_true q230
              go_wp2
              go_ret
              exact ⟨by first | rfl | (simp; done) | (simp [*]; done), by repeat (first | exact Drawn0.refl _ | apply Drawn0.step)⟩
          · rw [if_neg c4] at H
            exact absurd H (by simp)
        · rw [if_neg c3] at H
          exact absurd H (by simp)
      · rw [if_neg c2] at H
        have c2b0 : decide (x7_1 < (l0.length : Int)) = false := decide_eq_false c2
        clear c2
        obtain rfl := Option.some.inj H
        go_wp2
        go_ret
        exact ⟨by first | rfl | (simp; done) | (simp [*]; done), by repeat (first | exact Drawn0.refl _ | apply Drawn0.step)⟩

/-! ### demurralref08_Right: function 9 -/
def demurralref08_Right.j0 : Nat → Bool → Int → Int → Int → Int → ByteArray → ByteArray → Int → Int → ByteArray → Int → Int → ByteArray → List ByteArray → Option (Bool)
  | 0, _, _, _, _, _, _, _, _, _, _, _, _, _, _ => none
  | k + 1, x51, x232000, x232001, x232002, x232003, x232004, x232005, x232006, x232007, x232008, x232009, x232010, x232011, x232012 => if x51 = true then (some false) else (if x232000 = 1 then (if (x232008.size : Int) = 32 then (if (x232011.size : Int) ≤ 1024 then (some ((x232012.length : Int) == 0)) else (some false)) else (some false)) else (if x232000 = 2 then (if x232008.toList = ([] : List UInt8) then (if x232011.toList = ([] : List UInt8) then (if x232009 = 0 then (if x232010 = 0 then ((demurralref08_keys.f k x232012).bind fun t232 => (some t232)) else (some false)) else (some false)) else (some false)) else (some false)) else (some false)))
def demurralref08_Right.f (k : Nat) (a0_0 : Int) (a0_1 : Int) (a0_2 : Int) (a0_3 : Int) (a0_4 : ByteArray) (a0_5 : ByteArray) (a0_6 : Int) (a0_7 : Int) (a0_8 : ByteArray) (a0_9 : Int) (a0_10 : Int) (a0_11 : ByteArray) (l0_12 : List ByteArray) : Option (Bool) := if a0_0 = 0 then (if (a0_4.size : Int) = 32 then (if (a0_5.size : Int) = 32 then (if (a0_8.size : Int) = 32 then (if (a0_11.size : Int) ≤ 1024 then (some ((l0_12.length : Int) == 0)) else (some false)) else (some false)) else (some false)) else (some false)) else (if a0_4.toList = ([] : List UInt8) then (if a0_5.toList = ([] : List UInt8) then (if a0_6 = 0 then (demurralref08_Right.j0 k (a0_7 != 0) a0_0 a0_1 a0_2 a0_3 a0_4 a0_5 a0_6 a0_7 a0_8 a0_9 a0_10 a0_11 l0_12) else (demurralref08_Right.j0 k true a0_0 a0_1 a0_2 a0_3 a0_4 a0_5 a0_6 a0_7 a0_8 a0_9 a0_10 a0_11 l0_12)) else (demurralref08_Right.j0 k true a0_0 a0_1 a0_2 a0_3 a0_4 a0_5 a0_6 a0_7 a0_8 a0_9 a0_10 a0_11 l0_12)) else (demurralref08_Right.j0 k true a0_0 a0_1 a0_2 a0_3 a0_4 a0_5 a0_6 a0_7 a0_8 a0_9 a0_10 a0_11 l0_12))
theorem demurralref08_Right.mono_l : ∀ k, (∀ y0 y1 y2 y3 y4 y5 y6 y7 y8 y9 y10 y11 y12 y13, LeO (demurralref08_Right.j0 k y0 y1 y2 y3 y4 y5 y6 y7 y8 y9 y10 y11 y12 y13) (demurralref08_Right.j0 (k + 1) y0 y1 y2 y3 y4 y5 y6 y7 y8 y9 y10 y11 y12 y13))
  | 0 => fun _ _ _ _ _ _ _ _ _ _ _ _ _ _ r h => by simp [demurralref08_Right.j0] at h
  | k + 1 => by
    have ih0 := demurralref08_Right.mono_l k
    · intro y0 y1 y2 y3 y4 y5 y6 y7 y8 y9 y10 y11 y12 y13
      unfold demurralref08_Right.j0
      repeat' first
      | (with_reducible exact ih0 _ _ _ _ _ _ _ _ _ _ _ _ _ _)
      | (with_reducible exact demurralref08_keys.mono _ _)
      | (with_reducible exact LeO.refl _)
      | (with_reducible exact LeO.none _)
      | (with_reducible refine LeO.ite ?_ ?_)
      | (with_reducible refine LeO.bind ?_ (fun _ => ?_))
      | exact ih0 _ _ _ _ _ _ _ _ _ _ _ _ _ _
      | exact demurralref08_keys.mono _ _
      | exact LeO.none _
      | refine LeO.ite ?_ ?_
      | refine LeO.bind ?_ (fun _ => ?_)
theorem demurralref08_Right.mono : ∀ a0 a1 a2 a3 a4 a5 a6 a7 a8 a9 a10 a11 a12 k, LeO (demurralref08_Right.f k a0 a1 a2 a3 a4 a5 a6 a7 a8 a9 a10 a11 a12) (demurralref08_Right.f (k + 1) a0 a1 a2 a3 a4 a5 a6 a7 a8 a9 a10 a11 a12) := by
  intro a0 a1 a2 a3 a4 a5 a6 a7 a8 a9 a10 a11 a12 k
  have ih0 := demurralref08_Right.mono_l k
  unfold demurralref08_Right.f
  repeat' first
      | (with_reducible exact ih0 _ _ _ _ _ _ _ _ _ _ _ _ _ _)
      | (with_reducible exact demurralref08_keys.mono _ _)
      | (with_reducible exact LeO.refl _)
      | (with_reducible exact LeO.none _)
      | (with_reducible refine LeO.ite ?_ ?_)
      | (with_reducible refine LeO.bind ?_ (fun _ => ?_))
      | exact ih0 _ _ _ _ _ _ _ _ _ _ _ _ _ _
      | exact demurralref08_keys.mono _ _
      | exact LeO.none _
      | refine LeO.ite ?_ ?_
      | refine LeO.bind ?_ (fun _ => ?_)
set_option maxHeartbeats 8000000 in
set_option maxRecDepth 100000 in
theorem demurralref08_Right.calls (k : Nat) (a0_0 : Int) (a0_1 : Int) (a0_2 : Int) (a0_3 : Int) (a0_4 : ByteArray) (a0_5 : ByteArray) (a0_6 : Int) (a0_7 : Int) (a0_8 : ByteArray) (a0_9 : Int) (a0_10 : Int) (a0_11 : ByteArray) (A0_12 : Option Addr) (c0_12 : Nat) (l0_12 : List ByteArray) (r : Bool) (w : World) (hr0_12 : Kd.C Kd.string w A0_12 l0_12.length l0_12) (hc0_12 : l0_12.length ≤ c0_12) (h : demurralref08_Right.f k a0_0 a0_1 a0_2 a0_3 a0_4 a0_5 a0_6 a0_7 a0_8 a0_9 a0_10 a0_11 l0_12 = some r) :
    Calls Try.prog 9 #[.agg #[.int .i64 a0_0, .int .u64 a0_1, .int .u64 a0_2, .int .u64 a0_3, .string a0_4, .string a0_5, .int .u64 a0_6, .int .u64 a0_7, .string a0_8, .int .u64 a0_9, .int .u64 a0_10, .string a0_11, .slice A0_12 l0_12.length c0_12]] w fun e w' => e = .returned (.bool r) ∧ Below w.heap.size w w' := by
  have hu25 := Try.underlying25
  have HR0_12 := Aside0.mk hr0_12
  have HC0_12 := Aside0.mk hc0_12
  clear hr0_12 hc0_12
  have HB := Aside0.mk (Below.refl w.heap.size w)
  have H : (if a0_0 = 0 then (if (a0_4.size : Int) = 32 then (if (a0_5.size : Int) = 32 then (if (a0_8.size : Int) = 32 then (if (a0_11.size : Int) ≤ 1024 then (some ((l0_12.length : Int) == 0)) else (some false)) else (some false)) else (some false)) else (some false)) else (if a0_4.toList = ([] : List UInt8) then (if a0_5.toList = ([] : List UInt8) then (if a0_6 = 0 then (demurralref08_Right.j0 k (a0_7 != 0) a0_0 a0_1 a0_2 a0_3 a0_4 a0_5 a0_6 a0_7 a0_8 a0_9 a0_10 a0_11 l0_12) else (demurralref08_Right.j0 k true a0_0 a0_1 a0_2 a0_3 a0_4 a0_5 a0_6 a0_7 a0_8 a0_9 a0_10 a0_11 l0_12)) else (demurralref08_Right.j0 k true a0_0 a0_1 a0_2 a0_3 a0_4 a0_5 a0_6 a0_7 a0_8 a0_9 a0_10 a0_11 l0_12)) else (demurralref08_Right.j0 k true a0_0 a0_1 a0_2 a0_3 a0_4 a0_5 a0_6 a0_7 a0_8 a0_9 a0_10 a0_11 l0_12))) = some r := h
  clear h
  by_cases c2 : a0_0 = 0
  · rw [if_pos c2] at H
    have c2b0 : (a0_0 == 0) = true := beq_iff_eq.mpr c2
    have c2b1 : (a0_0 != 0) = false := bne_eq_false_iff_eq.mpr c2
    clear c2
    by_cases c3 : (a0_4.size : Int) = 32
    · rw [if_pos c3] at H
      have c3b0 : ((a0_4.size : Int) == 32) = true := beq_iff_eq.mpr c3
      have c3b1 : ((a0_4.size : Int) != 32) = false := bne_eq_false_iff_eq.mpr c3
      clear c3
      by_cases c4 : (a0_5.size : Int) = 32
      · rw [if_pos c4] at H
        have c4b0 : ((a0_5.size : Int) == 32) = true := beq_iff_eq.mpr c4
        have c4b1 : ((a0_5.size : Int) != 32) = false := bne_eq_false_iff_eq.mpr c4
        clear c4
        by_cases c5 : (a0_8.size : Int) = 32
        · rw [if_pos c5] at H
          have c5b0 : ((a0_8.size : Int) == 32) = true := beq_iff_eq.mpr c5
          have c5b1 : ((a0_8.size : Int) != 32) = false := bne_eq_false_iff_eq.mpr c5
          clear c5
          by_cases c6 : (a0_11.size : Int) ≤ 1024
          · rw [if_pos c6] at H
            have c6b0 : decide ((a0_11.size : Int) ≤ 1024) = true := decide_eq_true c6
            have c6b1 : decide (a0_11.size ≤ 1024) = true := decide_eq_true (by omega)
            clear c6
            obtain rfl := Option.some.inj H
            go_enter Try.func9, Try.ntmps9
            go_wp2_with (first | ((with_reducible refine gate_dst (N := 1) rfl ?_); (try (refine gate_guard (by rfl) ?_; dsimp only)); refine box_event ?hg (N := 1) ?hd (cs := #[.int .i64 a0_0, .int .u64 a0_1, .int .u64 a0_2, .int .u64 a0_3, .string a0_4, .string a0_5, .int .u64 a0_6, .int .u64 a0_7, .string a0_8, .int .u64 a0_9, .int .u64 a0_10, .string a0_11, .slice A0_12 l0_12.length c0_12]) (t := 25) ?hr ?_; (case hd => rfl); (case hg => rfl); (case hr => first | (go_simp; done) | (go_simp; rfl)); intro gb231 hg w7 hbox hb; have n0_ := Aside0.mk (below_step (by repeat (first | (with_reducible first | exact HB.out | apply below_alloc | apply pw_below_drewN | apply below_drew1) | exact HB.out)) hb); have n1_ := Aside0.mk (hbox); have n2_ := Aside0.mk ((by rw [hg]; exact (below_size (by repeat (first | (with_reducible first | exact HB.out | apply below_alloc | apply pw_below_drewN | apply below_drew1) | exact HB.out))) : w.heap.size ≤ gb231)); have n3_ := Aside0.mk ((by rw [hg]; exact (below_size (by repeat (first | (with_reducible first | exact HB.out | apply below_alloc | apply pw_below_drewN | apply below_drew1) | exact HB.out))) : w.heap.size ≤ gb231)); clear HB; have HB := n0_; have BK231 := n1_; have GW231 := n2_; have GE231 := n3_; clear n0_ n1_ n2_ n3_; clear hb hbox hg; have hcz8_0 : w7.cell? ⟨gb231, 0, none⟩ = some (.int .i64 a0_0) := (blk_cell BK231.out 0).trans rfl; have hcz8_1 : w7.cell? ⟨gb231, 1, none⟩ = some (.int .u64 a0_1) := (blk_cell BK231.out 1).trans rfl; have hcz8_2 : w7.cell? ⟨gb231, 2, none⟩ = some (.int .u64 a0_2) := (blk_cell BK231.out 2).trans rfl; have hcz8_3 : w7.cell? ⟨gb231, 3, none⟩ = some (.int .u64 a0_3) := (blk_cell BK231.out 3).trans rfl; have hcz8_4 : w7.cell? ⟨gb231, 4, none⟩ = some (.string a0_4) := (blk_cell BK231.out 4).trans rfl; have hcz8_5 : w7.cell? ⟨gb231, 5, none⟩ = some (.string a0_5) := (blk_cell BK231.out 5).trans rfl; have hcz8_6 : w7.cell? ⟨gb231, 6, none⟩ = some (.int .u64 a0_6) := (blk_cell BK231.out 6).trans rfl; have hcz8_7 : w7.cell? ⟨gb231, 7, none⟩ = some (.int .u64 a0_7) := (blk_cell BK231.out 7).trans rfl; have hcz8_8 : w7.cell? ⟨gb231, 8, none⟩ = some (.string a0_8) := (blk_cell BK231.out 8).trans rfl; have hcz8_9 : w7.cell? ⟨gb231, 9, none⟩ = some (.int .u64 a0_9) := (blk_cell BK231.out 9).trans rfl; have hcz8_10 : w7.cell? ⟨gb231, 10, none⟩ = some (.int .u64 a0_10) := (blk_cell BK231.out 10).trans rfl; have hcz8_11 : w7.cell? ⟨gb231, 11, none⟩ = some (.string a0_11) := (blk_cell BK231.out 11).trans rfl; have hcz8_12 : w7.cell? ⟨gb231, 12, none⟩ = some (.slice A0_12 l0_12.length c0_12) := (blk_cell BK231.out 12).trans rfl; have hfz8_0 := blk_frozen BK231.out 0; have hfz8_1 := blk_frozen BK231.out 1; have hfz8_2 := blk_frozen BK231.out 2; have hfz8_3 := blk_frozen BK231.out 3; have hfz8_4 := blk_frozen BK231.out 4; have hfz8_5 := blk_frozen BK231.out 5; have hfz8_6 := blk_frozen BK231.out 6; have hfz8_7 := blk_frozen BK231.out 7; have hfz8_8 := blk_frozen BK231.out 8; have hfz8_9 := blk_frozen BK231.out 9; have hfz8_10 := blk_frozen BK231.out 10; have hfz8_11 := blk_frozen BK231.out 11; have hfz8_12 := blk_frozen BK231.out 12))
            go_ret
            exact ⟨by first | rfl | (simp [errW_none, errW_some] <;> rfl) | (simp [*, errW_none, errW_some] <;> rfl), by repeat (first | (with_reducible first | exact HB.out | apply below_alloc | apply pw_below_drewN | apply below_drew1 | refine below_set ?_ GE231.out) | exact HB.out)⟩
          · rw [if_neg c6] at H
            have c6b0 : decide ((a0_11.size : Int) ≤ 1024) = false := decide_eq_false c6
            have c6b1 : decide (a0_11.size ≤ 1024) = false := decide_eq_false (by omega)
            clear c6
            obtain rfl := Option.some.inj H
            go_enter Try.func9, Try.ntmps9
            go_wp2_with (first | ((with_reducible refine gate_dst (N := 1) rfl ?_); (try (refine gate_guard (by rfl) ?_; dsimp only)); refine box_event ?hg (N := 1) ?hd (cs := #[.int .i64 a0_0, .int .u64 a0_1, .int .u64 a0_2, .int .u64 a0_3, .string a0_4, .string a0_5, .int .u64 a0_6, .int .u64 a0_7, .string a0_8, .int .u64 a0_9, .int .u64 a0_10, .string a0_11, .slice A0_12 l0_12.length c0_12]) (t := 25) ?hr ?_; (case hd => rfl); (case hg => rfl); (case hr => first | (go_simp; done) | (go_simp; rfl)); intro gb231 hg w9 hbox hb; have n0_ := Aside0.mk (below_step (by repeat (first | (with_reducible first | exact HB.out | apply below_alloc | apply pw_below_drewN | apply below_drew1) | exact HB.out)) hb); have n1_ := Aside0.mk (hbox); have n2_ := Aside0.mk ((by rw [hg]; exact (below_size (by repeat (first | (with_reducible first | exact HB.out | apply below_alloc | apply pw_below_drewN | apply below_drew1) | exact HB.out))) : w.heap.size ≤ gb231)); have n3_ := Aside0.mk ((by rw [hg]; exact (below_size (by repeat (first | (with_reducible first | exact HB.out | apply below_alloc | apply pw_below_drewN | apply below_drew1) | exact HB.out))) : w.heap.size ≤ gb231)); clear HB; have HB := n0_; have BK231 := n1_; have GW231 := n2_; have GE231 := n3_; clear n0_ n1_ n2_ n3_; clear hb hbox hg; have hcz10_0 : w9.cell? ⟨gb231, 0, none⟩ = some (.int .i64 a0_0) := (blk_cell BK231.out 0).trans rfl; have hcz10_1 : w9.cell? ⟨gb231, 1, none⟩ = some (.int .u64 a0_1) := (blk_cell BK231.out 1).trans rfl; have hcz10_2 : w9.cell? ⟨gb231, 2, none⟩ = some (.int .u64 a0_2) := (blk_cell BK231.out 2).trans rfl; have hcz10_3 : w9.cell? ⟨gb231, 3, none⟩ = some (.int .u64 a0_3) := (blk_cell BK231.out 3).trans rfl; have hcz10_4 : w9.cell? ⟨gb231, 4, none⟩ = some (.string a0_4) := (blk_cell BK231.out 4).trans rfl; have hcz10_5 : w9.cell? ⟨gb231, 5, none⟩ = some (.string a0_5) := (blk_cell BK231.out 5).trans rfl; have hcz10_6 : w9.cell? ⟨gb231, 6, none⟩ = some (.int .u64 a0_6) := (blk_cell BK231.out 6).trans rfl; have hcz10_7 : w9.cell? ⟨gb231, 7, none⟩ = some (.int .u64 a0_7) := (blk_cell BK231.out 7).trans rfl; have hcz10_8 : w9.cell? ⟨gb231, 8, none⟩ = some (.string a0_8) := (blk_cell BK231.out 8).trans rfl; have hcz10_9 : w9.cell? ⟨gb231, 9, none⟩ = some (.int .u64 a0_9) := (blk_cell BK231.out 9).trans rfl; have hcz10_10 : w9.cell? ⟨gb231, 10, none⟩ = some (.int .u64 a0_10) := (blk_cell BK231.out 10).trans rfl; have hcz10_11 : w9.cell? ⟨gb231, 11, none⟩ = some (.string a0_11) := (blk_cell BK231.out 11).trans rfl; have hcz10_12 : w9.cell? ⟨gb231, 12, none⟩ = some (.slice A0_12 l0_12.length c0_12) := (blk_cell BK231.out 12).trans rfl; have hfz10_0 := blk_frozen BK231.out 0; have hfz10_1 := blk_frozen BK231.out 1; have hfz10_2 := blk_frozen BK231.out 2; have hfz10_3 := blk_frozen BK231.out 3; have hfz10_4 := blk_frozen BK231.out 4; have hfz10_5 := blk_frozen BK231.out 5; have hfz10_6 := blk_frozen BK231.out 6; have hfz10_7 := blk_frozen BK231.out 7; have hfz10_8 := blk_frozen BK231.out 8; have hfz10_9 := blk_frozen BK231.out 9; have hfz10_10 := blk_frozen BK231.out 10; have hfz10_11 := blk_frozen BK231.out 11; have hfz10_12 := blk_frozen BK231.out 12))
            go_ret
            exact ⟨by first | rfl | (simp [errW_none, errW_some] <;> rfl) | (simp [*, errW_none, errW_some] <;> rfl), by repeat (first | (with_reducible first | exact HB.out | apply below_alloc | apply pw_below_drewN | apply below_drew1 | refine below_set ?_ GE231.out) | exact HB.out)⟩
        · rw [if_neg c5] at H
          have c5b0 : ((a0_8.size : Int) == 32) = false := beq_eq_false_iff_ne.mpr c5
          have c5b1 : ((a0_8.size : Int) != 32) = true := bne_iff_ne.mpr c5
          obtain rfl := Option.some.inj H
          go_enter Try.func9, Try.ntmps9
          go_wp2_with (first | ((with_reducible refine gate_dst (N := 1) rfl ?_); (try (refine gate_guard (by rfl) ?_; dsimp only)); refine box_event ?hg (N := 1) ?hd (cs := #[.int .i64 a0_0, .int .u64 a0_1, .int .u64 a0_2, .int .u64 a0_3, .string a0_4, .string a0_5, .int .u64 a0_6, .int .u64 a0_7, .string a0_8, .int .u64 a0_9, .int .u64 a0_10, .string a0_11, .slice A0_12 l0_12.length c0_12]) (t := 25) ?hr ?_; (case hd => rfl); (case hg => rfl); (case hr => first | (go_simp; done) | (go_simp; rfl)); intro gb231 hg w11 hbox hb; have n0_ := Aside0.mk (below_step (by repeat (first | (with_reducible first | exact HB.out | apply below_alloc | apply pw_below_drewN | apply below_drew1) | exact HB.out)) hb); have n1_ := Aside0.mk (hbox); have n2_ := Aside0.mk ((by rw [hg]; exact (below_size (by repeat (first | (with_reducible first | exact HB.out | apply below_alloc | apply pw_below_drewN | apply below_drew1) | exact HB.out))) : w.heap.size ≤ gb231)); have n3_ := Aside0.mk ((by rw [hg]; exact (below_size (by repeat (first | (with_reducible first | exact HB.out | apply below_alloc | apply pw_below_drewN | apply below_drew1) | exact HB.out))) : w.heap.size ≤ gb231)); clear HB; have HB := n0_; have BK231 := n1_; have GW231 := n2_; have GE231 := n3_; clear n0_ n1_ n2_ n3_; clear hb hbox hg; have hcz12_0 : w11.cell? ⟨gb231, 0, none⟩ = some (.int .i64 a0_0) := (blk_cell BK231.out 0).trans rfl; have hcz12_1 : w11.cell? ⟨gb231, 1, none⟩ = some (.int .u64 a0_1) := (blk_cell BK231.out 1).trans rfl; have hcz12_2 : w11.cell? ⟨gb231, 2, none⟩ = some (.int .u64 a0_2) := (blk_cell BK231.out 2).trans rfl; have hcz12_3 : w11.cell? ⟨gb231, 3, none⟩ = some (.int .u64 a0_3) := (blk_cell BK231.out 3).trans rfl; have hcz12_4 : w11.cell? ⟨gb231, 4, none⟩ = some (.string a0_4) := (blk_cell BK231.out 4).trans rfl; have hcz12_5 : w11.cell? ⟨gb231, 5, none⟩ = some (.string a0_5) := (blk_cell BK231.out 5).trans rfl; have hcz12_6 : w11.cell? ⟨gb231, 6, none⟩ = some (.int .u64 a0_6) := (blk_cell BK231.out 6).trans rfl; have hcz12_7 : w11.cell? ⟨gb231, 7, none⟩ = some (.int .u64 a0_7) := (blk_cell BK231.out 7).trans rfl; have hcz12_8 : w11.cell? ⟨gb231, 8, none⟩ = some (.string a0_8) := (blk_cell BK231.out 8).trans rfl; have hcz12_9 : w11.cell? ⟨gb231, 9, none⟩ = some (.int .u64 a0_9) := (blk_cell BK231.out 9).trans rfl; have hcz12_10 : w11.cell? ⟨gb231, 10, none⟩ = some (.int .u64 a0_10) := (blk_cell BK231.out 10).trans rfl; have hcz12_11 : w11.cell? ⟨gb231, 11, none⟩ = some (.string a0_11) := (blk_cell BK231.out 11).trans rfl; have hcz12_12 : w11.cell? ⟨gb231, 12, none⟩ = some (.slice A0_12 l0_12.length c0_12) := (blk_cell BK231.out 12).trans rfl; have hfz12_0 := blk_frozen BK231.out 0; have hfz12_1 := blk_frozen BK231.out 1; have hfz12_2 := blk_frozen BK231.out 2; have hfz12_3 := blk_frozen BK231.out 3; have hfz12_4 := blk_frozen BK231.out 4; have hfz12_5 := blk_frozen BK231.out 5; have hfz12_6 := blk_frozen BK231.out 6; have hfz12_7 := blk_frozen BK231.out 7; have hfz12_8 := blk_frozen BK231.out 8; have hfz12_9 := blk_frozen BK231.out 9; have hfz12_10 := blk_frozen BK231.out 10; have hfz12_11 := blk_frozen BK231.out 11; have hfz12_12 := blk_frozen BK231.out 12))
          go_ret
          exact ⟨by first | rfl | (simp [errW_none, errW_some] <;> rfl) | (simp [*, errW_none, errW_some] <;> rfl), by repeat (first | (with_reducible first | exact HB.out | apply below_alloc | apply pw_below_drewN | apply below_drew1 | refine below_set ?_ GE231.out) | exact HB.out)⟩
      · rw [if_neg c4] at H
        have c4b0 : ((a0_5.size : Int) == 32) = false := beq_eq_false_iff_ne.mpr c4
        have c4b1 : ((a0_5.size : Int) != 32) = true := bne_iff_ne.mpr c4
        obtain rfl := Option.some.inj H
        go_enter Try.func9, Try.ntmps9
        go_wp2_with (first | ((with_reducible refine gate_dst (N := 1) rfl ?_); (try (refine gate_guard (by rfl) ?_; dsimp only)); refine box_event ?hg (N := 1) ?hd (cs := #[.int .i64 a0_0, .int .u64 a0_1, .int .u64 a0_2, .int .u64 a0_3, .string a0_4, .string a0_5, .int .u64 a0_6, .int .u64 a0_7, .string a0_8, .int .u64 a0_9, .int .u64 a0_10, .string a0_11, .slice A0_12 l0_12.length c0_12]) (t := 25) ?hr ?_; (case hd => rfl); (case hg => rfl); (case hr => first | (go_simp; done) | (go_simp; rfl)); intro gb231 hg w13 hbox hb; have n0_ := Aside0.mk (below_step (by repeat (first | (with_reducible first | exact HB.out | apply below_alloc | apply pw_below_drewN | apply below_drew1) | exact HB.out)) hb); have n1_ := Aside0.mk (hbox); have n2_ := Aside0.mk ((by rw [hg]; exact (below_size (by repeat (first | (with_reducible first | exact HB.out | apply below_alloc | apply pw_below_drewN | apply below_drew1) | exact HB.out))) : w.heap.size ≤ gb231)); have n3_ := Aside0.mk ((by rw [hg]; exact (below_size (by repeat (first | (with_reducible first | exact HB.out | apply below_alloc | apply pw_below_drewN | apply below_drew1) | exact HB.out))) : w.heap.size ≤ gb231)); clear HB; have HB := n0_; have BK231 := n1_; have GW231 := n2_; have GE231 := n3_; clear n0_ n1_ n2_ n3_; clear hb hbox hg; have hcz14_0 : w13.cell? ⟨gb231, 0, none⟩ = some (.int .i64 a0_0) := (blk_cell BK231.out 0).trans rfl; have hcz14_1 : w13.cell? ⟨gb231, 1, none⟩ = some (.int .u64 a0_1) := (blk_cell BK231.out 1).trans rfl; have hcz14_2 : w13.cell? ⟨gb231, 2, none⟩ = some (.int .u64 a0_2) := (blk_cell BK231.out 2).trans rfl; have hcz14_3 : w13.cell? ⟨gb231, 3, none⟩ = some (.int .u64 a0_3) := (blk_cell BK231.out 3).trans rfl; have hcz14_4 : w13.cell? ⟨gb231, 4, none⟩ = some (.string a0_4) := (blk_cell BK231.out 4).trans rfl; have hcz14_5 : w13.cell? ⟨gb231, 5, none⟩ = some (.string a0_5) := (blk_cell BK231.out 5).trans rfl; have hcz14_6 : w13.cell? ⟨gb231, 6, none⟩ = some (.int .u64 a0_6) := (blk_cell BK231.out 6).trans rfl; have hcz14_7 : w13.cell? ⟨gb231, 7, none⟩ = some (.int .u64 a0_7) := (blk_cell BK231.out 7).trans rfl; have hcz14_8 : w13.cell? ⟨gb231, 8, none⟩ = some (.string a0_8) := (blk_cell BK231.out 8).trans rfl; have hcz14_9 : w13.cell? ⟨gb231, 9, none⟩ = some (.int .u64 a0_9) := (blk_cell BK231.out 9).trans rfl; have hcz14_10 : w13.cell? ⟨gb231, 10, none⟩ = some (.int .u64 a0_10) := (blk_cell BK231.out 10).trans rfl; have hcz14_11 : w13.cell? ⟨gb231, 11, none⟩ = some (.string a0_11) := (blk_cell BK231.out 11).trans rfl; have hcz14_12 : w13.cell? ⟨gb231, 12, none⟩ = some (.slice A0_12 l0_12.length c0_12) := (blk_cell BK231.out 12).trans rfl; have hfz14_0 := blk_frozen BK231.out 0; have hfz14_1 := blk_frozen BK231.out 1; have hfz14_2 := blk_frozen BK231.out 2; have hfz14_3 := blk_frozen BK231.out 3; have hfz14_4 := blk_frozen BK231.out 4; have hfz14_5 := blk_frozen BK231.out 5; have hfz14_6 := blk_frozen BK231.out 6; have hfz14_7 := blk_frozen BK231.out 7; have hfz14_8 := blk_frozen BK231.out 8; have hfz14_9 := blk_frozen BK231.out 9; have hfz14_10 := blk_frozen BK231.out 10; have hfz14_11 := blk_frozen BK231.out 11; have hfz14_12 := blk_frozen BK231.out 12))
        go_ret
        exact ⟨by first | rfl | (simp [errW_none, errW_some] <;> rfl) | (simp [*, errW_none, errW_some] <;> rfl), by repeat (first | (with_reducible first | exact HB.out | apply below_alloc | apply pw_below_drewN | apply below_drew1 | refine below_set ?_ GE231.out) | exact HB.out)⟩
    · rw [if_neg c3] at H
      have c3b0 : ((a0_4.size : Int) == 32) = false := beq_eq_false_iff_ne.mpr c3
      have c3b1 : ((a0_4.size : Int) != 32) = true := bne_iff_ne.mpr c3
      obtain rfl := Option.some.inj H
      go_enter Try.func9, Try.ntmps9
      go_wp2_with (first | ((with_reducible refine gate_dst (N := 1) rfl ?_); (try (refine gate_guard (by rfl) ?_; dsimp only)); refine box_event ?hg (N := 1) ?hd (cs := #[.int .i64 a0_0, .int .u64 a0_1, .int .u64 a0_2, .int .u64 a0_3, .string a0_4, .string a0_5, .int .u64 a0_6, .int .u64 a0_7, .string a0_8, .int .u64 a0_9, .int .u64 a0_10, .string a0_11, .slice A0_12 l0_12.length c0_12]) (t := 25) ?hr ?_; (case hd => rfl); (case hg => rfl); (case hr => first | (go_simp; done) | (go_simp; rfl)); intro gb231 hg w15 hbox hb; have n0_ := Aside0.mk (below_step (by repeat (first | (with_reducible first | exact HB.out | apply below_alloc | apply pw_below_drewN | apply below_drew1) | exact HB.out)) hb); have n1_ := Aside0.mk (hbox); have n2_ := Aside0.mk ((by rw [hg]; exact (below_size (by repeat (first | (with_reducible first | exact HB.out | apply below_alloc | apply pw_below_drewN | apply below_drew1) | exact HB.out))) : w.heap.size ≤ gb231)); have n3_ := Aside0.mk ((by rw [hg]; exact (below_size (by repeat (first | (with_reducible first | exact HB.out | apply below_alloc | apply pw_below_drewN | apply below_drew1) | exact HB.out))) : w.heap.size ≤ gb231)); clear HB; have HB := n0_; have BK231 := n1_; have GW231 := n2_; have GE231 := n3_; clear n0_ n1_ n2_ n3_; clear hb hbox hg; have hcz16_0 : w15.cell? ⟨gb231, 0, none⟩ = some (.int .i64 a0_0) := (blk_cell BK231.out 0).trans rfl; have hcz16_1 : w15.cell? ⟨gb231, 1, none⟩ = some (.int .u64 a0_1) := (blk_cell BK231.out 1).trans rfl; have hcz16_2 : w15.cell? ⟨gb231, 2, none⟩ = some (.int .u64 a0_2) := (blk_cell BK231.out 2).trans rfl; have hcz16_3 : w15.cell? ⟨gb231, 3, none⟩ = some (.int .u64 a0_3) := (blk_cell BK231.out 3).trans rfl; have hcz16_4 : w15.cell? ⟨gb231, 4, none⟩ = some (.string a0_4) := (blk_cell BK231.out 4).trans rfl; have hcz16_5 : w15.cell? ⟨gb231, 5, none⟩ = some (.string a0_5) := (blk_cell BK231.out 5).trans rfl; have hcz16_6 : w15.cell? ⟨gb231, 6, none⟩ = some (.int .u64 a0_6) := (blk_cell BK231.out 6).trans rfl; have hcz16_7 : w15.cell? ⟨gb231, 7, none⟩ = some (.int .u64 a0_7) := (blk_cell BK231.out 7).trans rfl; have hcz16_8 : w15.cell? ⟨gb231, 8, none⟩ = some (.string a0_8) := (blk_cell BK231.out 8).trans rfl; have hcz16_9 : w15.cell? ⟨gb231, 9, none⟩ = some (.int .u64 a0_9) := (blk_cell BK231.out 9).trans rfl; have hcz16_10 : w15.cell? ⟨gb231, 10, none⟩ = some (.int .u64 a0_10) := (blk_cell BK231.out 10).trans rfl; have hcz16_11 : w15.cell? ⟨gb231, 11, none⟩ = some (.string a0_11) := (blk_cell BK231.out 11).trans rfl; have hcz16_12 : w15.cell? ⟨gb231, 12, none⟩ = some (.slice A0_12 l0_12.length c0_12) := (blk_cell BK231.out 12).trans rfl; have hfz16_0 := blk_frozen BK231.out 0; have hfz16_1 := blk_frozen BK231.out 1; have hfz16_2 := blk_frozen BK231.out 2; have hfz16_3 := blk_frozen BK231.out 3; have hfz16_4 := blk_frozen BK231.out 4; have hfz16_5 := blk_frozen BK231.out 5; have hfz16_6 := blk_frozen BK231.out 6; have hfz16_7 := blk_frozen BK231.out 7; have hfz16_8 := blk_frozen BK231.out 8; have hfz16_9 := blk_frozen BK231.out 9; have hfz16_10 := blk_frozen BK231.out 10; have hfz16_11 := blk_frozen BK231.out 11; have hfz16_12 := blk_frozen BK231.out 12))
      go_ret
      exact ⟨by first | rfl | (simp [errW_none, errW_some] <;> rfl) | (simp [*, errW_none, errW_some] <;> rfl), by repeat (first | (with_reducible first | exact HB.out | apply below_alloc | apply pw_below_drewN | apply below_drew1 | refine below_set ?_ GE231.out) | exact HB.out)⟩
  · rw [if_neg c2] at H
    have c2b0 : (a0_0 == 0) = false := beq_eq_false_iff_ne.mpr c2
    have c2b1 : (a0_0 != 0) = true := bne_iff_ne.mpr c2
    have HC17 := Aside0.mk H
    clear H
    go_enter Try.func9, Try.ntmps9
    go_upto_region 3 with (first | ((with_reducible refine gate_dst (N := 1) rfl ?_); (try (refine gate_guard (by rfl) ?_; dsimp only)); refine box_event ?hg (N := 1) ?hd (cs := #[.int .i64 a0_0, .int .u64 a0_1, .int .u64 a0_2, .int .u64 a0_3, .string a0_4, .string a0_5, .int .u64 a0_6, .int .u64 a0_7, .string a0_8, .int .u64 a0_9, .int .u64 a0_10, .string a0_11, .slice A0_12 l0_12.length c0_12]) (t := 25) ?hr ?_; (case hd => rfl); (case hg => rfl); (case hr => first | (go_simp; done) | (go_simp; rfl)); intro gb231 hg w18 hbox hb; have n0_ := Aside0.mk (below_step (by repeat (first | (with_reducible first | exact HB.out | apply below_alloc | apply pw_below_drewN | apply below_drew1) | exact HB.out)) hb); have n1_ := Aside0.mk (hbox); have n2_ := Aside0.mk ((by rw [hg]; exact (below_size (by repeat (first | (with_reducible first | exact HB.out | apply below_alloc | apply pw_below_drewN | apply below_drew1) | exact HB.out))) : w.heap.size ≤ gb231)); have n3_ := Aside0.mk ((by rw [hg]; exact (below_size (by repeat (first | (with_reducible first | exact HB.out | apply below_alloc | apply pw_below_drewN | apply below_drew1) | exact HB.out))) : w.heap.size ≤ gb231)); clear HB; have HB := n0_; have BK231 := n1_; have GW231 := n2_; have GE231 := n3_; clear n0_ n1_ n2_ n3_; clear hb hbox hg; have hcz19_0 : w18.cell? ⟨gb231, 0, none⟩ = some (.int .i64 a0_0) := (blk_cell BK231.out 0).trans rfl; have hcz19_1 : w18.cell? ⟨gb231, 1, none⟩ = some (.int .u64 a0_1) := (blk_cell BK231.out 1).trans rfl; have hcz19_2 : w18.cell? ⟨gb231, 2, none⟩ = some (.int .u64 a0_2) := (blk_cell BK231.out 2).trans rfl; have hcz19_3 : w18.cell? ⟨gb231, 3, none⟩ = some (.int .u64 a0_3) := (blk_cell BK231.out 3).trans rfl; have hcz19_4 : w18.cell? ⟨gb231, 4, none⟩ = some (.string a0_4) := (blk_cell BK231.out 4).trans rfl; have hcz19_5 : w18.cell? ⟨gb231, 5, none⟩ = some (.string a0_5) := (blk_cell BK231.out 5).trans rfl; have hcz19_6 : w18.cell? ⟨gb231, 6, none⟩ = some (.int .u64 a0_6) := (blk_cell BK231.out 6).trans rfl; have hcz19_7 : w18.cell? ⟨gb231, 7, none⟩ = some (.int .u64 a0_7) := (blk_cell BK231.out 7).trans rfl; have hcz19_8 : w18.cell? ⟨gb231, 8, none⟩ = some (.string a0_8) := (blk_cell BK231.out 8).trans rfl; have hcz19_9 : w18.cell? ⟨gb231, 9, none⟩ = some (.int .u64 a0_9) := (blk_cell BK231.out 9).trans rfl; have hcz19_10 : w18.cell? ⟨gb231, 10, none⟩ = some (.int .u64 a0_10) := (blk_cell BK231.out 10).trans rfl; have hcz19_11 : w18.cell? ⟨gb231, 11, none⟩ = some (.string a0_11) := (blk_cell BK231.out 11).trans rfl; have hcz19_12 : w18.cell? ⟨gb231, 12, none⟩ = some (.slice A0_12 l0_12.length c0_12) := (blk_cell BK231.out 12).trans rfl; have hfz19_0 := blk_frozen BK231.out 0; have hfz19_1 := blk_frozen BK231.out 1; have hfz19_2 := blk_frozen BK231.out 2; have hfz19_3 := blk_frozen BK231.out 3; have hfz19_4 := blk_frozen BK231.out 4; have hfz19_5 := blk_frozen BK231.out 5; have hfz19_6 := blk_frozen BK231.out 6; have hfz19_7 := blk_frozen BK231.out 7; have hfz19_8 := blk_frozen BK231.out 8; have hfz19_9 := blk_frozen BK231.out 9; have hfz19_10 := blk_frozen BK231.out 10; have hfz19_11 := blk_frozen BK231.out 11; have hfz19_12 := blk_frozen BK231.out 12))
    (try simp only [Act.put, List.setIfInBounds_toArray, List.set_cons_zero, List.set_cons_succ])
    go_cut [51] (fun v51 wc => ∃ (kq : Nat) (x51_16 : Bool), v51 = .bool x51_16 ∧ Aside0 (demurralref08_Right.j0 kq x51_16 a0_0 a0_1 a0_2 a0_3 a0_4 a0_5 a0_6 a0_7 a0_8 a0_9 a0_10 a0_11 l0_12 = some r) ∧ Aside0 (kq ≤ k) ∧ Aside0 (wc.heap[gb231]? = some (.cells #[.int .i64 a0_0, .int .u64 a0_1, .int .u64 a0_2, .int .u64 a0_3, .string a0_4, .string a0_5, .int .u64 a0_6, .int .u64 a0_7, .string a0_8, .int .u64 a0_9, .int .u64 a0_10, .string a0_11, (.slice A0_12 l0_12.length c0_12)] 25 (0, 0))) ∧ Aside0 (Below w.heap.size w wc))
    case first =>
      have H := HC17.out
      clear HC17
      by_cases c20 : a0_4.toList = ([] : List UInt8)
      · rw [if_pos c20] at H
        have c20b0 : (a0_4.toList == ([] : List UInt8)) = true := beq_iff_eq.mpr c20
        have c20b1 : (a0_4.toList != ([] : List UInt8)) = false := bne_eq_false_iff_eq.mpr c20
        clear c20
        (first | rw [c20b0] | (simp only [i64_w, i32_w]; rw [c20b0]) | skip)
        by_cases c21 : a0_5.toList = ([] : List UInt8)
        · rw [if_pos c21] at H
          have c21b0 : (a0_5.toList == ([] : List UInt8)) = true := beq_iff_eq.mpr c21
          have c21b1 : (a0_5.toList != ([] : List UInt8)) = false := bne_eq_false_iff_eq.mpr c21
          clear c21
          by_cases c22 : a0_6 = 0
          · rw [if_pos c22] at H
            have c22b0 : (a0_6 == 0) = true := beq_iff_eq.mpr c22
            have c22b1 : (a0_6 != 0) = false := bne_eq_false_iff_eq.mpr c22
            clear c22
            have H' := Aside0.mk H
            clear H
            have hcz23_0 : w18.cell? ⟨gb231, 0, none⟩ = some (.int .i64 a0_0) := (blk_cell BK231.out 0).trans rfl
            have hcz23_1 : w18.cell? ⟨gb231, 1, none⟩ = some (.int .u64 a0_1) := (blk_cell BK231.out 1).trans rfl
            have hcz23_2 : w18.cell? ⟨gb231, 2, none⟩ = some (.int .u64 a0_2) := (blk_cell BK231.out 2).trans rfl
            have hcz23_3 : w18.cell? ⟨gb231, 3, none⟩ = some (.int .u64 a0_3) := (blk_cell BK231.out 3).trans rfl
            have hcz23_4 : w18.cell? ⟨gb231, 4, none⟩ = some (.string a0_4) := (blk_cell BK231.out 4).trans rfl
            have hcz23_5 : w18.cell? ⟨gb231, 5, none⟩ = some (.string a0_5) := (blk_cell BK231.out 5).trans rfl
            have hcz23_6 : w18.cell? ⟨gb231, 6, none⟩ = some (.int .u64 a0_6) := (blk_cell BK231.out 6).trans rfl
            have hcz23_7 : w18.cell? ⟨gb231, 7, none⟩ = some (.int .u64 a0_7) := (blk_cell BK231.out 7).trans rfl
            have hcz23_8 : w18.cell? ⟨gb231, 8, none⟩ = some (.string a0_8) := (blk_cell BK231.out 8).trans rfl
            have hcz23_9 : w18.cell? ⟨gb231, 9, none⟩ = some (.int .u64 a0_9) := (blk_cell BK231.out 9).trans rfl
            have hcz23_10 : w18.cell? ⟨gb231, 10, none⟩ = some (.int .u64 a0_10) := (blk_cell BK231.out 10).trans rfl
            have hcz23_11 : w18.cell? ⟨gb231, 11, none⟩ = some (.string a0_11) := (blk_cell BK231.out 11).trans rfl
            have hcz23_12 : w18.cell? ⟨gb231, 12, none⟩ = some (.slice A0_12 l0_12.length c0_12) := (blk_cell BK231.out 12).trans rfl
            have hfz23_0 := blk_frozen BK231.out 0
            have hfz23_1 := blk_frozen BK231.out 1
            have hfz23_2 := blk_frozen BK231.out 2
            have hfz23_3 := blk_frozen BK231.out 3
            have hfz23_4 := blk_frozen BK231.out 4
            have hfz23_5 := blk_frozen BK231.out 5
            have hfz23_6 := blk_frozen BK231.out 6
            have hfz23_7 := blk_frozen BK231.out 7
            have hfz23_8 := blk_frozen BK231.out 8
            have hfz23_9 := blk_frozen BK231.out 9
            have hfz23_10 := blk_frozen BK231.out 10
            have hfz23_11 := blk_frozen BK231.out 11
            have hfz23_12 := blk_frozen BK231.out 12
            go_wp2
            go_meet
            case rel => exact ⟨_, ((a0_7 != 0)), (by first | rfl | (simp; done) | (simp [*]; done)), H', ⟨by first | omega | exact Nat.le_refl _⟩, ⟨by (with_reducible repeat (first | refine blk_drewN ?_ _ | refine blk_drew ?_ | refine blk_alloc ?_ _)); exact BK231.out⟩, ⟨by repeat (first | (with_reducible first | exact HB.out | apply below_alloc | apply pw_below_drewN | apply below_drew1 | refine below_set ?_ GE231.out) | exact HB.out)⟩⟩
          · rw [if_neg c22] at H
            have c22b0 : (a0_6 == 0) = false := beq_eq_false_iff_ne.mpr c22
            have c22b1 : (a0_6 != 0) = true := bne_iff_ne.mpr c22
            have H' := Aside0.mk H
            clear H
            have hcz24_0 : w18.cell? ⟨gb231, 0, none⟩ = some (.int .i64 a0_0) := (blk_cell BK231.out 0).trans rfl
            have hcz24_1 : w18.cell? ⟨gb231, 1, none⟩ = some (.int .u64 a0_1) := (blk_cell BK231.out 1).trans rfl
            have hcz24_2 : w18.cell? ⟨gb231, 2, none⟩ = some (.int .u64 a0_2) := (blk_cell BK231.out 2).trans rfl
            have hcz24_3 : w18.cell? ⟨gb231, 3, none⟩ = some (.int .u64 a0_3) := (blk_cell BK231.out 3).trans rfl
            have hcz24_4 : w18.cell? ⟨gb231, 4, none⟩ = some (.string a0_4) := (blk_cell BK231.out 4).trans rfl
            have hcz24_5 : w18.cell? ⟨gb231, 5, none⟩ = some (.string a0_5) := (blk_cell BK231.out 5).trans rfl
            have hcz24_6 : w18.cell? ⟨gb231, 6, none⟩ = some (.int .u64 a0_6) := (blk_cell BK231.out 6).trans rfl
            have hcz24_7 : w18.cell? ⟨gb231, 7, none⟩ = some (.int .u64 a0_7) := (blk_cell BK231.out 7).trans rfl
            have hcz24_8 : w18.cell? ⟨gb231, 8, none⟩ = some (.string a0_8) := (blk_cell BK231.out 8).trans rfl
            have hcz24_9 : w18.cell? ⟨gb231, 9, none⟩ = some (.int .u64 a0_9) := (blk_cell BK231.out 9).trans rfl
            have hcz24_10 : w18.cell? ⟨gb231, 10, none⟩ = some (.int .u64 a0_10) := (blk_cell BK231.out 10).trans rfl
            have hcz24_11 : w18.cell? ⟨gb231, 11, none⟩ = some (.string a0_11) := (blk_cell BK231.out 11).trans rfl
            have hcz24_12 : w18.cell? ⟨gb231, 12, none⟩ = some (.slice A0_12 l0_12.length c0_12) := (blk_cell BK231.out 12).trans rfl
            have hfz24_0 := blk_frozen BK231.out 0
            have hfz24_1 := blk_frozen BK231.out 1
            have hfz24_2 := blk_frozen BK231.out 2
            have hfz24_3 := blk_frozen BK231.out 3
            have hfz24_4 := blk_frozen BK231.out 4
            have hfz24_5 := blk_frozen BK231.out 5
            have hfz24_6 := blk_frozen BK231.out 6
            have hfz24_7 := blk_frozen BK231.out 7
            have hfz24_8 := blk_frozen BK231.out 8
            have hfz24_9 := blk_frozen BK231.out 9
            have hfz24_10 := blk_frozen BK231.out 10
            have hfz24_11 := blk_frozen BK231.out 11
            have hfz24_12 := blk_frozen BK231.out 12
            go_wp2
            go_meet
            case rel => exact ⟨_, (true), (by first | rfl | (simp; done) | (simp [*]; done)), H', ⟨by first | omega | exact Nat.le_refl _⟩, ⟨by (with_reducible repeat (first | refine blk_drewN ?_ _ | refine blk_drew ?_ | refine blk_alloc ?_ _)); exact BK231.out⟩, ⟨by repeat (first | (with_reducible first | exact HB.out | apply below_alloc | apply pw_below_drewN | apply below_drew1 | refine below_set ?_ GE231.out) | exact HB.out)⟩⟩
        · rw [if_neg c21] at H
          have c21b0 : (a0_5.toList == ([] : List UInt8)) = false := beq_eq_false_iff_ne.mpr c21
          have c21b1 : (a0_5.toList != ([] : List UInt8)) = true := bne_iff_ne.mpr c21
          have H' := Aside0.mk H
          clear H
          have hcz25_0 : w18.cell? ⟨gb231, 0, none⟩ = some (.int .i64 a0_0) := (blk_cell BK231.out 0).trans rfl
          have hcz25_1 : w18.cell? ⟨gb231, 1, none⟩ = some (.int .u64 a0_1) := (blk_cell BK231.out 1).trans rfl
          have hcz25_2 : w18.cell? ⟨gb231, 2, none⟩ = some (.int .u64 a0_2) := (blk_cell BK231.out 2).trans rfl
          have hcz25_3 : w18.cell? ⟨gb231, 3, none⟩ = some (.int .u64 a0_3) := (blk_cell BK231.out 3).trans rfl
          have hcz25_4 : w18.cell? ⟨gb231, 4, none⟩ = some (.string a0_4) := (blk_cell BK231.out 4).trans rfl
          have hcz25_5 : w18.cell? ⟨gb231, 5, none⟩ = some (.string a0_5) := (blk_cell BK231.out 5).trans rfl
          have hcz25_6 : w18.cell? ⟨gb231, 6, none⟩ = some (.int .u64 a0_6) := (blk_cell BK231.out 6).trans rfl
          have hcz25_7 : w18.cell? ⟨gb231, 7, none⟩ = some (.int .u64 a0_7) := (blk_cell BK231.out 7).trans rfl
          have hcz25_8 : w18.cell? ⟨gb231, 8, none⟩ = some (.string a0_8) := (blk_cell BK231.out 8).trans rfl
          have hcz25_9 : w18.cell? ⟨gb231, 9, none⟩ = some (.int .u64 a0_9) := (blk_cell BK231.out 9).trans rfl
          have hcz25_10 : w18.cell? ⟨gb231, 10, none⟩ = some (.int .u64 a0_10) := (blk_cell BK231.out 10).trans rfl
          have hcz25_11 : w18.cell? ⟨gb231, 11, none⟩ = some (.string a0_11) := (blk_cell BK231.out 11).trans rfl
          have hcz25_12 : w18.cell? ⟨gb231, 12, none⟩ = some (.slice A0_12 l0_12.length c0_12) := (blk_cell BK231.out 12).trans rfl
          have hfz25_0 := blk_frozen BK231.out 0
          have hfz25_1 := blk_frozen BK231.out 1
          have hfz25_2 := blk_frozen BK231.out 2
          have hfz25_3 := blk_frozen BK231.out 3
          have hfz25_4 := blk_frozen BK231.out 4
          have hfz25_5 := blk_frozen BK231.out 5
          have hfz25_6 := blk_frozen BK231.out 6
          have hfz25_7 := blk_frozen BK231.out 7
          have hfz25_8 := blk_frozen BK231.out 8
          have hfz25_9 := blk_frozen BK231.out 9
          have hfz25_10 := blk_frozen BK231.out 10
          have hfz25_11 := blk_frozen BK231.out 11
          have hfz25_12 := blk_frozen BK231.out 12
          go_wp2
          go_meet
          case rel => exact ⟨_, (true), (by first | rfl | (simp; done) | (simp [*]; done)), H', ⟨by first | omega | exact Nat.le_refl _⟩, ⟨by (with_reducible repeat (first | refine blk_drewN ?_ _ | refine blk_drew ?_ | refine blk_alloc ?_ _)); exact BK231.out⟩, ⟨by repeat (first | (with_reducible first | exact HB.out | apply below_alloc | apply pw_below_drewN | apply below_drew1 | refine below_set ?_ GE231.out) | exact HB.out)⟩⟩
      · rw [if_neg c20] at H
        have c20b0 : (a0_4.toList == ([] : List UInt8)) = false := beq_eq_false_iff_ne.mpr c20
        have c20b1 : (a0_4.toList != ([] : List UInt8)) = true := bne_iff_ne.mpr c20
        (first | rw [c20b0] | (simp only [i64_w, i32_w]; rw [c20b0]) | skip)
        have H' := Aside0.mk H
        clear H
        have hcz26_0 : w18.cell? ⟨gb231, 0, none⟩ = some (.int .i64 a0_0) := (blk_cell BK231.out 0).trans rfl
        have hcz26_1 : w18.cell? ⟨gb231, 1, none⟩ = some (.int .u64 a0_1) := (blk_cell BK231.out 1).trans rfl
        have hcz26_2 : w18.cell? ⟨gb231, 2, none⟩ = some (.int .u64 a0_2) := (blk_cell BK231.out 2).trans rfl
        have hcz26_3 : w18.cell? ⟨gb231, 3, none⟩ = some (.int .u64 a0_3) := (blk_cell BK231.out 3).trans rfl
        have hcz26_4 : w18.cell? ⟨gb231, 4, none⟩ = some (.string a0_4) := (blk_cell BK231.out 4).trans rfl
        have hcz26_5 : w18.cell? ⟨gb231, 5, none⟩ = some (.string a0_5) := (blk_cell BK231.out 5).trans rfl
        have hcz26_6 : w18.cell? ⟨gb231, 6, none⟩ = some (.int .u64 a0_6) := (blk_cell BK231.out 6).trans rfl
        have hcz26_7 : w18.cell? ⟨gb231, 7, none⟩ = some (.int .u64 a0_7) := (blk_cell BK231.out 7).trans rfl
        have hcz26_8 : w18.cell? ⟨gb231, 8, none⟩ = some (.string a0_8) := (blk_cell BK231.out 8).trans rfl
        have hcz26_9 : w18.cell? ⟨gb231, 9, none⟩ = some (.int .u64 a0_9) := (blk_cell BK231.out 9).trans rfl
        have hcz26_10 : w18.cell? ⟨gb231, 10, none⟩ = some (.int .u64 a0_10) := (blk_cell BK231.out 10).trans rfl
        have hcz26_11 : w18.cell? ⟨gb231, 11, none⟩ = some (.string a0_11) := (blk_cell BK231.out 11).trans rfl
        have hcz26_12 : w18.cell? ⟨gb231, 12, none⟩ = some (.slice A0_12 l0_12.length c0_12) := (blk_cell BK231.out 12).trans rfl
        have hfz26_0 := blk_frozen BK231.out 0
        have hfz26_1 := blk_frozen BK231.out 1
        have hfz26_2 := blk_frozen BK231.out 2
        have hfz26_3 := blk_frozen BK231.out 3
        have hfz26_4 := blk_frozen BK231.out 4
        have hfz26_5 := blk_frozen BK231.out 5
        have hfz26_6 := blk_frozen BK231.out 6
        have hfz26_7 := blk_frozen BK231.out 7
        have hfz26_8 := blk_frozen BK231.out 8
        have hfz26_9 := blk_frozen BK231.out 9
        have hfz26_10 := blk_frozen BK231.out 10
        have hfz26_11 := blk_frozen BK231.out 11
        have hfz26_12 := blk_frozen BK231.out 12
        go_wp2
        go_meet
        case rel => exact ⟨_, (true), (by first | rfl | (simp; done) | (simp [*]; done)), H', ⟨by first | omega | exact Nat.le_refl _⟩, ⟨by (with_reducible repeat (first | refine blk_drewN ?_ _ | refine blk_drew ?_ | refine blk_alloc ?_ _)); exact BK231.out⟩, ⟨by repeat (first | (with_reducible first | exact HB.out | apply below_alloc | apply pw_below_drewN | apply below_drew1 | refine below_set ?_ GE231.out) | exact HB.out)⟩⟩
    case rest =>
      clear HC17
      try clear c2
      try clear c2b0
      try clear c2b1
      try clear p2
      try clear c3
      try clear c3b0
      try clear c3b1
      try clear c4
      try clear c4b0
      try clear c4b1
      try clear c5
      try clear c5b0
      try clear c5b1
      try clear c6
      try clear c6b0
      try clear c6b1
      try clear c9
      try clear c20
      try clear c20b0
      try clear c20b1
      try clear c21
      try clear c21b0
      try clear c21b1
      try clear c22
      try clear c22b0
      try clear c22b1
      try clear hcz10_0
      try clear hcz10_1
      try clear hcz10_10
      try clear hcz10_11
      try clear hcz10_12
      try clear hcz10_2
      try clear hcz10_3
      try clear hcz10_4
      try clear hcz10_5
      try clear hcz10_6
      try clear hcz10_7
      try clear hcz10_8
      try clear hcz10_9
      try clear hcz12_0
      try clear hcz12_1
      try clear hcz12_10
      try clear hcz12_11
      try clear hcz12_12
      try clear hcz12_2
      try clear hcz12_3
      try clear hcz12_4
      try clear hcz12_5
      try clear hcz12_6
      try clear hcz12_7
      try clear hcz12_8
      try clear hcz12_9
      try clear hcz14_0
      try clear hcz14_1
      try clear hcz14_10
      try clear hcz14_11
      try clear hcz14_12
      try clear hcz14_2
      try clear hcz14_3
      try clear hcz14_4
      try clear hcz14_5
      try clear hcz14_6
      try clear hcz14_7
      try clear hcz14_8
      try clear hcz14_9
      try clear hcz16_0
      try clear hcz16_1
      try clear hcz16_10
      try clear hcz16_11
      try clear hcz16_12
      try clear hcz16_2
      try clear hcz16_3
      try clear hcz16_4
      try clear hcz16_5
      try clear hcz16_6
      try clear hcz16_7
      try clear hcz16_8
      try clear hcz16_9
      try clear hcz19_0
      try clear hcz19_1
      try clear hcz19_10
      try clear hcz19_11
      try clear hcz19_12
      try clear hcz19_2
      try clear hcz19_3
      try clear hcz19_4
      try clear hcz19_5
      try clear hcz19_6
      try clear hcz19_7
      try clear hcz19_8
      try clear hcz19_9
      try clear hcz23_0
      try clear hcz23_1
      try clear hcz23_10
      try clear hcz23_11
      try clear hcz23_12
      try clear hcz23_2
      try clear hcz23_3
      try clear hcz23_4
      try clear hcz23_5
      try clear hcz23_6
      try clear hcz23_7
      try clear hcz23_8
      try clear hcz23_9
      try clear hcz24_0
      try clear hcz24_1
      try clear hcz24_10
      try clear hcz24_11
      try clear hcz24_12
      try clear hcz24_2
      try clear hcz24_3
      try clear hcz24_4
      try clear hcz24_5
      try clear hcz24_6
      try clear hcz24_7
      try clear hcz24_8
      try clear hcz24_9
      try clear hcz25_0
      try clear hcz25_1
      try clear hcz25_10
      try clear hcz25_11
      try clear hcz25_12
      try clear hcz25_2
      try clear hcz25_3
      try clear hcz25_4
      try clear hcz25_5
      try clear hcz25_6
      try clear hcz25_7
      try clear hcz25_8
      try clear hcz25_9
      try clear hcz26_0
      try clear hcz26_1
      try clear hcz26_10
      try clear hcz26_11
      try clear hcz26_12
      try clear hcz26_2
      try clear hcz26_3
      try clear hcz26_4
      try clear hcz26_5
      try clear hcz26_6
      try clear hcz26_7
      try clear hcz26_8
      try clear hcz26_9
      try clear hcz8_0
      try clear hcz8_1
      try clear hcz8_10
      try clear hcz8_11
      try clear hcz8_12
      try clear hcz8_2
      try clear hcz8_3
      try clear hcz8_4
      try clear hcz8_5
      try clear hcz8_6
      try clear hcz8_7
      try clear hcz8_8
      try clear hcz8_9
      try clear hfz10_0
      try clear hfz10_1
      try clear hfz10_10
      try clear hfz10_11
      try clear hfz10_12
      try clear hfz10_2
      try clear hfz10_3
      try clear hfz10_4
      try clear hfz10_5
      try clear hfz10_6
      try clear hfz10_7
      try clear hfz10_8
      try clear hfz10_9
      try clear hfz12_0
      try clear hfz12_1
      try clear hfz12_10
      try clear hfz12_11
      try clear hfz12_12
      try clear hfz12_2
      try clear hfz12_3
      try clear hfz12_4
      try clear hfz12_5
      try clear hfz12_6
      try clear hfz12_7
      try clear hfz12_8
      try clear hfz12_9
      try clear hfz14_0
      try clear hfz14_1
      try clear hfz14_10
      try clear hfz14_11
      try clear hfz14_12
      try clear hfz14_2
      try clear hfz14_3
      try clear hfz14_4
      try clear hfz14_5
      try clear hfz14_6
      try clear hfz14_7
      try clear hfz14_8
      try clear hfz14_9
      try clear hfz16_0
      try clear hfz16_1
      try clear hfz16_10
      try clear hfz16_11
      try clear hfz16_12
      try clear hfz16_2
      try clear hfz16_3
      try clear hfz16_4
      try clear hfz16_5
      try clear hfz16_6
      try clear hfz16_7
      try clear hfz16_8
      try clear hfz16_9
      try clear hfz19_0
      try clear hfz19_1
      try clear hfz19_10
      try clear hfz19_11
      try clear hfz19_12
      try clear hfz19_2
      try clear hfz19_3
      try clear hfz19_4
      try clear hfz19_5
      try clear hfz19_6
      try clear hfz19_7
      try clear hfz19_8
      try clear hfz19_9
      try clear hfz23_0
      try clear hfz23_1
      try clear hfz23_10
      try clear hfz23_11
      try clear hfz23_12
      try clear hfz23_2
      try clear hfz23_3
      try clear hfz23_4
      try clear hfz23_5
      try clear hfz23_6
      try clear hfz23_7
      try clear hfz23_8
      try clear hfz23_9
      try clear hfz24_0
      try clear hfz24_1
      try clear hfz24_10
      try clear hfz24_11
      try clear hfz24_12
      try clear hfz24_2
      try clear hfz24_3
      try clear hfz24_4
      try clear hfz24_5
      try clear hfz24_6
      try clear hfz24_7
      try clear hfz24_8
      try clear hfz24_9
      try clear hfz25_0
      try clear hfz25_1
      try clear hfz25_10
      try clear hfz25_11
      try clear hfz25_12
      try clear hfz25_2
      try clear hfz25_3
      try clear hfz25_4
      try clear hfz25_5
      try clear hfz25_6
      try clear hfz25_7
      try clear hfz25_8
      try clear hfz25_9
      try clear hfz26_0
      try clear hfz26_1
      try clear hfz26_10
      try clear hfz26_11
      try clear hfz26_12
      try clear hfz26_2
      try clear hfz26_3
      try clear hfz26_4
      try clear hfz26_5
      try clear hfz26_6
      try clear hfz26_7
      try clear hfz26_8
      try clear hfz26_9
      try clear hfz8_0
      try clear hfz8_1
      try clear hfz8_10
      try clear hfz8_11
      try clear hfz8_12
      try clear hfz8_2
      try clear hfz8_3
      try clear hfz8_4
      try clear hfz8_5
      try clear hfz8_6
      try clear hfz8_7
      try clear hfz8_8
      try clear hfz8_9
      obtain ⟨kq, x51_16, rfl, HA, HJ16, BK231, HB⟩ := hcut
      cases kq with
      | zero => exact absurd HA.out (by simp [demurralref08_Right.j0])
      | succ kj16 =>
        have H := HA.out
        clear HA
        simp only [demurralref08_Right.j0] at H
        by_cases c27 : x51_16 = true
        · subst c27
          have H1 : (some false) = some r := by rw [if_pos rfl] at H; exact H
          clear H
          have H := H1
          clear H1
          obtain rfl := Option.some.inj H
          go_wp2
          go_ret
          exact ⟨by first | rfl | (simp [errW_none, errW_some] <;> rfl) | (simp [*, errW_none, errW_some] <;> rfl), by repeat (first | (with_reducible first | exact HB.out | apply below_alloc | apply pw_below_drewN | apply below_drew1 | refine below_set ?_ GE231.out) | exact HB.out)⟩
        · replace c27 := Bool.eq_false_iff.mpr c27
          subst c27
          have H1 : (if a0_0 = 1 then (if (a0_8.size : Int) = 32 then (if (a0_11.size : Int) ≤ 1024 then (some ((l0_12.length : Int) == 0)) else (some false)) else (some false)) else (if a0_0 = 2 then (if a0_8.toList = ([] : List UInt8) then (if a0_11.toList = ([] : List UInt8) then (if a0_9 = 0 then (if a0_10 = 0 then ((demurralref08_keys.f kj16 l0_12).bind fun t232 => (some t232)) else (some false)) else (some false)) else (some false)) else (some false)) else (some false))) = some r := by rw [if_neg (show ¬ (false = true) by decide)] at H; exact H
          clear H
          have H := H1
          clear H1
          by_cases c28 : a0_0 = 1
          · rw [if_pos c28] at H
            have c28b0 : (a0_0 == 1) = true := beq_iff_eq.mpr c28
            have c28b1 : (a0_0 != 1) = false := bne_eq_false_iff_eq.mpr c28
            clear c28
            by_cases c29 : (a0_8.size : Int) = 32
            · rw [if_pos c29] at H
              have c29b0 : ((a0_8.size : Int) == 32) = true := beq_iff_eq.mpr c29
              have c29b1 : ((a0_8.size : Int) != 32) = false := bne_eq_false_iff_eq.mpr c29
              clear c29
              by_cases c30 : (a0_11.size : Int) ≤ 1024
              · rw [if_pos c30] at H
                have c30b0 : decide ((a0_11.size : Int) ≤ 1024) = true := decide_eq_true c30
                have c30b1 : decide (a0_11.size ≤ 1024) = true := decide_eq_true (by omega)
                clear c30
                obtain rfl := Option.some.inj H
                have hcz31_0 : wc.cell? ⟨gb231, 0, none⟩ = some (.int .i64 a0_0) := (blk_cell BK231.out 0).trans rfl
                have hcz31_1 : wc.cell? ⟨gb231, 1, none⟩ = some (.int .u64 a0_1) := (blk_cell BK231.out 1).trans rfl
                have hcz31_2 : wc.cell? ⟨gb231, 2, none⟩ = some (.int .u64 a0_2) := (blk_cell BK231.out 2).trans rfl
                have hcz31_3 : wc.cell? ⟨gb231, 3, none⟩ = some (.int .u64 a0_3) := (blk_cell BK231.out 3).trans rfl
                have hcz31_4 : wc.cell? ⟨gb231, 4, none⟩ = some (.string a0_4) := (blk_cell BK231.out 4).trans rfl
                have hcz31_5 : wc.cell? ⟨gb231, 5, none⟩ = some (.string a0_5) := (blk_cell BK231.out 5).trans rfl
                have hcz31_6 : wc.cell? ⟨gb231, 6, none⟩ = some (.int .u64 a0_6) := (blk_cell BK231.out 6).trans rfl
                have hcz31_7 : wc.cell? ⟨gb231, 7, none⟩ = some (.int .u64 a0_7) := (blk_cell BK231.out 7).trans rfl
                have hcz31_8 : wc.cell? ⟨gb231, 8, none⟩ = some (.string a0_8) := (blk_cell BK231.out 8).trans rfl
                have hcz31_9 : wc.cell? ⟨gb231, 9, none⟩ = some (.int .u64 a0_9) := (blk_cell BK231.out 9).trans rfl
                have hcz31_10 : wc.cell? ⟨gb231, 10, none⟩ = some (.int .u64 a0_10) := (blk_cell BK231.out 10).trans rfl
                have hcz31_11 : wc.cell? ⟨gb231, 11, none⟩ = some (.string a0_11) := (blk_cell BK231.out 11).trans rfl
                have hcz31_12 : wc.cell? ⟨gb231, 12, none⟩ = some (.slice A0_12 l0_12.length c0_12) := (blk_cell BK231.out 12).trans rfl
                have hfz31_0 := blk_frozen BK231.out 0
                have hfz31_1 := blk_frozen BK231.out 1
                have hfz31_2 := blk_frozen BK231.out 2
                have hfz31_3 := blk_frozen BK231.out 3
                have hfz31_4 := blk_frozen BK231.out 4
                have hfz31_5 := blk_frozen BK231.out 5
                have hfz31_6 := blk_frozen BK231.out 6
                have hfz31_7 := blk_frozen BK231.out 7
                have hfz31_8 := blk_frozen BK231.out 8
                have hfz31_9 := blk_frozen BK231.out 9
                have hfz31_10 := blk_frozen BK231.out 10
                have hfz31_11 := blk_frozen BK231.out 11
                have hfz31_12 := blk_frozen BK231.out 12
                go_wp2
                go_ret
                exact ⟨by first | rfl | (simp [errW_none, errW_some] <;> rfl) | (simp [*, errW_none, errW_some] <;> rfl), by repeat (first | (with_reducible first | exact HB.out | apply below_alloc | apply pw_below_drewN | apply below_drew1 | refine below_set ?_ GE231.out) | exact HB.out)⟩
              · rw [if_neg c30] at H
                have c30b0 : decide ((a0_11.size : Int) ≤ 1024) = false := decide_eq_false c30
                have c30b1 : decide (a0_11.size ≤ 1024) = false := decide_eq_false (by omega)
                clear c30
                obtain rfl := Option.some.inj H
                have hcz32_0 : wc.cell? ⟨gb231, 0, none⟩ = some (.int .i64 a0_0) := (blk_cell BK231.out 0).trans rfl
                have hcz32_1 : wc.cell? ⟨gb231, 1, none⟩ = some (.int .u64 a0_1) := (blk_cell BK231.out 1).trans rfl
                have hcz32_2 : wc.cell? ⟨gb231, 2, none⟩ = some (.int .u64 a0_2) := (blk_cell BK231.out 2).trans rfl
                have hcz32_3 : wc.cell? ⟨gb231, 3, none⟩ = some (.int .u64 a0_3) := (blk_cell BK231.out 3).trans rfl
                have hcz32_4 : wc.cell? ⟨gb231, 4, none⟩ = some (.string a0_4) := (blk_cell BK231.out 4).trans rfl
                have hcz32_5 : wc.cell? ⟨gb231, 5, none⟩ = some (.string a0_5) := (blk_cell BK231.out 5).trans rfl
                have hcz32_6 : wc.cell? ⟨gb231, 6, none⟩ = some (.int .u64 a0_6) := (blk_cell BK231.out 6).trans rfl
                have hcz32_7 : wc.cell? ⟨gb231, 7, none⟩ = some (.int .u64 a0_7) := (blk_cell BK231.out 7).trans rfl
                have hcz32_8 : wc.cell? ⟨gb231, 8, none⟩ = some (.string a0_8) := (blk_cell BK231.out 8).trans rfl
                have hcz32_9 : wc.cell? ⟨gb231, 9, none⟩ = some (.int .u64 a0_9) := (blk_cell BK231.out 9).trans rfl
                have hcz32_10 : wc.cell? ⟨gb231, 10, none⟩ = some (.int .u64 a0_10) := (blk_cell BK231.out 10).trans rfl
                have hcz32_11 : wc.cell? ⟨gb231, 11, none⟩ = some (.string a0_11) := (blk_cell BK231.out 11).trans rfl
                have hcz32_12 : wc.cell? ⟨gb231, 12, none⟩ = some (.slice A0_12 l0_12.length c0_12) := (blk_cell BK231.out 12).trans rfl
                have hfz32_0 := blk_frozen BK231.out 0
                have hfz32_1 := blk_frozen BK231.out 1
                have hfz32_2 := blk_frozen BK231.out 2
                have hfz32_3 := blk_frozen BK231.out 3
                have hfz32_4 := blk_frozen BK231.out 4
                have hfz32_5 := blk_frozen BK231.out 5
                have hfz32_6 := blk_frozen BK231.out 6
                have hfz32_7 := blk_frozen BK231.out 7
                have hfz32_8 := blk_frozen BK231.out 8
                have hfz32_9 := blk_frozen BK231.out 9
                have hfz32_10 := blk_frozen BK231.out 10
                have hfz32_11 := blk_frozen BK231.out 11
                have hfz32_12 := blk_frozen BK231.out 12
                go_wp2
                go_ret
                exact ⟨by first | rfl | (simp [errW_none, errW_some] <;> rfl) | (simp [*, errW_none, errW_some] <;> rfl), by repeat (first | (with_reducible first | exact HB.out | apply below_alloc | apply pw_below_drewN | apply below_drew1 | refine below_set ?_ GE231.out) | exact HB.out)⟩
            · rw [if_neg c29] at H
              have c29b0 : ((a0_8.size : Int) == 32) = false := beq_eq_false_iff_ne.mpr c29
              have c29b1 : ((a0_8.size : Int) != 32) = true := bne_iff_ne.mpr c29
              obtain rfl := Option.some.inj H
              have hcz33_0 : wc.cell? ⟨gb231, 0, none⟩ = some (.int .i64 a0_0) := (blk_cell BK231.out 0).trans rfl
              have hcz33_1 : wc.cell? ⟨gb231, 1, none⟩ = some (.int .u64 a0_1) := (blk_cell BK231.out 1).trans rfl
              have hcz33_2 : wc.cell? ⟨gb231, 2, none⟩ = some (.int .u64 a0_2) := (blk_cell BK231.out 2).trans rfl
              have hcz33_3 : wc.cell? ⟨gb231, 3, none⟩ = some (.int .u64 a0_3) := (blk_cell BK231.out 3).trans rfl
              have hcz33_4 : wc.cell? ⟨gb231, 4, none⟩ = some (.string a0_4) := (blk_cell BK231.out 4).trans rfl
              have hcz33_5 : wc.cell? ⟨gb231, 5, none⟩ = some (.string a0_5) := (blk_cell BK231.out 5).trans rfl
              have hcz33_6 : wc.cell? ⟨gb231, 6, none⟩ = some (.int .u64 a0_6) := (blk_cell BK231.out 6).trans rfl
              have hcz33_7 : wc.cell? ⟨gb231, 7, none⟩ = some (.int .u64 a0_7) := (blk_cell BK231.out 7).trans rfl
              have hcz33_8 : wc.cell? ⟨gb231, 8, none⟩ = some (.string a0_8) := (blk_cell BK231.out 8).trans rfl
              have hcz33_9 : wc.cell? ⟨gb231, 9, none⟩ = some (.int .u64 a0_9) := (blk_cell BK231.out 9).trans rfl
              have hcz33_10 : wc.cell? ⟨gb231, 10, none⟩ = some (.int .u64 a0_10) := (blk_cell BK231.out 10).trans rfl
              have hcz33_11 : wc.cell? ⟨gb231, 11, none⟩ = some (.string a0_11) := (blk_cell BK231.out 11).trans rfl
              have hcz33_12 : wc.cell? ⟨gb231, 12, none⟩ = some (.slice A0_12 l0_12.length c0_12) := (blk_cell BK231.out 12).trans rfl
              have hfz33_0 := blk_frozen BK231.out 0
              have hfz33_1 := blk_frozen BK231.out 1
              have hfz33_2 := blk_frozen BK231.out 2
              have hfz33_3 := blk_frozen BK231.out 3
              have hfz33_4 := blk_frozen BK231.out 4
              have hfz33_5 := blk_frozen BK231.out 5
              have hfz33_6 := blk_frozen BK231.out 6
              have hfz33_7 := blk_frozen BK231.out 7
              have hfz33_8 := blk_frozen BK231.out 8
              have hfz33_9 := blk_frozen BK231.out 9
              have hfz33_10 := blk_frozen BK231.out 10
              have hfz33_11 := blk_frozen BK231.out 11
              have hfz33_12 := blk_frozen BK231.out 12
              go_wp2
              go_ret
              exact ⟨by first | rfl | (simp [errW_none, errW_some] <;> rfl) | (simp [*, errW_none, errW_some] <;> rfl), by repeat (first | (with_reducible first | exact HB.out | apply below_alloc | apply pw_below_drewN | apply below_drew1 | refine below_set ?_ GE231.out) | exact HB.out)⟩
          · rw [if_neg c28] at H
            have c28b0 : (a0_0 == 1) = false := beq_eq_false_iff_ne.mpr c28
            have c28b1 : (a0_0 != 1) = true := bne_iff_ne.mpr c28
            by_cases c34 : a0_0 = 2
            · rw [if_pos c34] at H
              have c34b0 : (a0_0 == 2) = true := beq_iff_eq.mpr c34
              have c34b1 : (a0_0 != 2) = false := bne_eq_false_iff_eq.mpr c34
              clear c34
              by_cases c35 : a0_8.toList = ([] : List UInt8)
              · rw [if_pos c35] at H
                have c35b0 : (a0_8.toList == ([] : List UInt8)) = true := beq_iff_eq.mpr c35
                have c35b1 : (a0_8.toList != ([] : List UInt8)) = false := bne_eq_false_iff_eq.mpr c35
                clear c35
                by_cases c36 : a0_11.toList = ([] : List UInt8)
                · rw [if_pos c36] at H
                  have c36b0 : (a0_11.toList == ([] : List UInt8)) = true := beq_iff_eq.mpr c36
                  have c36b1 : (a0_11.toList != ([] : List UInt8)) = false := bne_eq_false_iff_eq.mpr c36
                  clear c36
                  by_cases c37 : a0_9 = 0
                  · rw [if_pos c37] at H
                    have c37b0 : (a0_9 == 0) = true := beq_iff_eq.mpr c37
                    have c37b1 : (a0_9 != 0) = false := bne_eq_false_iff_eq.mpr c37
                    clear c37
                    by_cases c38 : a0_10 = 0
                    · rw [if_pos c38] at H
                      have c38b0 : (a0_10 == 0) = true := beq_iff_eq.mpr c38
                      have c38b1 : (a0_10 != 0) = false := bne_eq_false_iff_eq.mpr c38
                      clear c38
                      replace H := Option.bind_eq_some_iff.mp H
                      obtain ⟨t232, A390, H⟩ := H
                      replace H : (some t232) = some r := H
                      have A39 := Aside0.mk A390
                      clear A390
                      obtain rfl := Option.some.inj H
                      have hcz40_0 : wc.cell? ⟨gb231, 0, none⟩ = some (.int .i64 a0_0) := (blk_cell BK231.out 0).trans rfl
                      have hcz40_1 : wc.cell? ⟨gb231, 1, none⟩ = some (.int .u64 a0_1) := (blk_cell BK231.out 1).trans rfl
                      have hcz40_2 : wc.cell? ⟨gb231, 2, none⟩ = some (.int .u64 a0_2) := (blk_cell BK231.out 2).trans rfl
                      have hcz40_3 : wc.cell? ⟨gb231, 3, none⟩ = some (.int .u64 a0_3) := (blk_cell BK231.out 3).trans rfl
                      have hcz40_4 : wc.cell? ⟨gb231, 4, none⟩ = some (.string a0_4) := (blk_cell BK231.out 4).trans rfl
                      have hcz40_5 : wc.cell? ⟨gb231, 5, none⟩ = some (.string a0_5) := (blk_cell BK231.out 5).trans rfl
                      have hcz40_6 : wc.cell? ⟨gb231, 6, none⟩ = some (.int .u64 a0_6) := (blk_cell BK231.out 6).trans rfl
                      have hcz40_7 : wc.cell? ⟨gb231, 7, none⟩ = some (.int .u64 a0_7) := (blk_cell BK231.out 7).trans rfl
                      have hcz40_8 : wc.cell? ⟨gb231, 8, none⟩ = some (.string a0_8) := (blk_cell BK231.out 8).trans rfl
                      have hcz40_9 : wc.cell? ⟨gb231, 9, none⟩ = some (.int .u64 a0_9) := (blk_cell BK231.out 9).trans rfl
                      have hcz40_10 : wc.cell? ⟨gb231, 10, none⟩ = some (.int .u64 a0_10) := (blk_cell BK231.out 10).trans rfl
                      have hcz40_11 : wc.cell? ⟨gb231, 11, none⟩ = some (.string a0_11) := (blk_cell BK231.out 11).trans rfl
                      have hcz40_12 : wc.cell? ⟨gb231, 12, none⟩ = some (.slice A0_12 l0_12.length c0_12) := (blk_cell BK231.out 12).trans rfl
                      have hfz40_0 := blk_frozen BK231.out 0
                      have hfz40_1 := blk_frozen BK231.out 1
                      have hfz40_2 := blk_frozen BK231.out 2
                      have hfz40_3 := blk_frozen BK231.out 3
                      have hfz40_4 := blk_frozen BK231.out 4
                      have hfz40_5 := blk_frozen BK231.out 5
                      have hfz40_6 := blk_frozen BK231.out 6
                      have hfz40_7 := blk_frozen BK231.out 7
                      have hfz40_8 := blk_frozen BK231.out 8
                      have hfz40_9 := blk_frozen BK231.out 9
                      have hfz40_10 := blk_frozen BK231.out 10
                      have hfz40_11 := blk_frozen BK231.out 11
                      have hfz40_12 := blk_frozen BK231.out 12
                      go_wp2_with (first | (go_at_call 30; (with_reducible refine (demurralref08_keys.calls kj16 _ _ l0_12 t232 _ ?side1 ?side2 A39.out).mono ?_); (case side1 => repeat (first | exact (Kd.C_below HR0_12.out HB.out) | (with_reducible refine Kd.C_alloc ?_ _) | (with_reducible refine Kd.C_drewN ?_ _) | (with_reducible refine Kd.C_drew ?_))); (case side2 => exact HC0_12.out); rintro e w' ⟨rfl, ⟨nd, rfl⟩⟩))
                      go_ret
                      exact ⟨by first | rfl | (simp [errW_none, errW_some] <;> rfl) | (simp [*, errW_none, errW_some] <;> rfl), by repeat (first | (with_reducible first | exact HB.out | apply below_alloc | apply pw_below_drewN | apply below_drew1 | refine below_set ?_ GE231.out) | exact HB.out)⟩
                    · rw [if_neg c38] at H
                      have c38b0 : (a0_10 == 0) = false := beq_eq_false_iff_ne.mpr c38
                      have c38b1 : (a0_10 != 0) = true := bne_iff_ne.mpr c38
                      obtain rfl := Option.some.inj H
                      have hcz41_0 : wc.cell? ⟨gb231, 0, none⟩ = some (.int .i64 a0_0) := (blk_cell BK231.out 0).trans rfl
                      have hcz41_1 : wc.cell? ⟨gb231, 1, none⟩ = some (.int .u64 a0_1) := (blk_cell BK231.out 1).trans rfl
                      have hcz41_2 : wc.cell? ⟨gb231, 2, none⟩ = some (.int .u64 a0_2) := (blk_cell BK231.out 2).trans rfl
                      have hcz41_3 : wc.cell? ⟨gb231, 3, none⟩ = some (.int .u64 a0_3) := (blk_cell BK231.out 3).trans rfl
                      have hcz41_4 : wc.cell? ⟨gb231, 4, none⟩ = some (.string a0_4) := (blk_cell BK231.out 4).trans rfl
                      have hcz41_5 : wc.cell? ⟨gb231, 5, none⟩ = some (.string a0_5) := (blk_cell BK231.out 5).trans rfl
                      have hcz41_6 : wc.cell? ⟨gb231, 6, none⟩ = some (.int .u64 a0_6) := (blk_cell BK231.out 6).trans rfl
                      have hcz41_7 : wc.cell? ⟨gb231, 7, none⟩ = some (.int .u64 a0_7) := (blk_cell BK231.out 7).trans rfl
                      have hcz41_8 : wc.cell? ⟨gb231, 8, none⟩ = some (.string a0_8) := (blk_cell BK231.out 8).trans rfl
                      have hcz41_9 : wc.cell? ⟨gb231, 9, none⟩ = some (.int .u64 a0_9) := (blk_cell BK231.out 9).trans rfl
                      have hcz41_10 : wc.cell? ⟨gb231, 10, none⟩ = some (.int .u64 a0_10) := (blk_cell BK231.out 10).trans rfl
                      have hcz41_11 : wc.cell? ⟨gb231, 11, none⟩ = some (.string a0_11) := (blk_cell BK231.out 11).trans rfl
                      have hcz41_12 : wc.cell? ⟨gb231, 12, none⟩ = some (.slice A0_12 l0_12.length c0_12) := (blk_cell BK231.out 12).trans rfl
                      have hfz41_0 := blk_frozen BK231.out 0
                      have hfz41_1 := blk_frozen BK231.out 1
                      have hfz41_2 := blk_frozen BK231.out 2
                      have hfz41_3 := blk_frozen BK231.out 3
                      have hfz41_4 := blk_frozen BK231.out 4
                      have hfz41_5 := blk_frozen BK231.out 5
                      have hfz41_6 := blk_frozen BK231.out 6
                      have hfz41_7 := blk_frozen BK231.out 7
                      have hfz41_8 := blk_frozen BK231.out 8
                      have hfz41_9 := blk_frozen BK231.out 9
                      have hfz41_10 := blk_frozen BK231.out 10
                      have hfz41_11 := blk_frozen BK231.out 11
                      have hfz41_12 := blk_frozen BK231.out 12
                      go_wp2
                      go_ret
                      exact ⟨by first | rfl | (simp [errW_none, errW_some] <;> rfl) | (simp [*, errW_none, errW_some] <;> rfl), by repeat (first | (with_reducible first | exact HB.out | apply below_alloc | apply pw_below_drewN | apply below_drew1 | refine below_set ?_ GE231.out) | exact HB.out)⟩
                  · rw [if_neg c37] at H
                    have c37b0 : (a0_9 == 0) = false := beq_eq_false_iff_ne.mpr c37
                    have c37b1 : (a0_9 != 0) = true := bne_iff_ne.mpr c37
                    obtain rfl := Option.some.inj H
                    have hcz42_0 : wc.cell? ⟨gb231, 0, none⟩ = some (.int .i64 a0_0) := (blk_cell BK231.out 0).trans rfl
                    have hcz42_1 : wc.cell? ⟨gb231, 1, none⟩ = some (.int .u64 a0_1) := (blk_cell BK231.out 1).trans rfl
                    have hcz42_2 : wc.cell? ⟨gb231, 2, none⟩ = some (.int .u64 a0_2) := (blk_cell BK231.out 2).trans rfl
                    have hcz42_3 : wc.cell? ⟨gb231, 3, none⟩ = some (.int .u64 a0_3) := (blk_cell BK231.out 3).trans rfl
                    have hcz42_4 : wc.cell? ⟨gb231, 4, none⟩ = some (.string a0_4) := (blk_cell BK231.out 4).trans rfl
                    have hcz42_5 : wc.cell? ⟨gb231, 5, none⟩ = some (.string a0_5) := (blk_cell BK231.out 5).trans rfl
                    have hcz42_6 : wc.cell? ⟨gb231, 6, none⟩ = some (.int .u64 a0_6) := (blk_cell BK231.out 6).trans rfl
                    have hcz42_7 : wc.cell? ⟨gb231, 7, none⟩ = some (.int .u64 a0_7) := (blk_cell BK231.out 7).trans rfl
                    have hcz42_8 : wc.cell? ⟨gb231, 8, none⟩ = some (.string a0_8) := (blk_cell BK231.out 8).trans rfl
                    have hcz42_9 : wc.cell? ⟨gb231, 9, none⟩ = some (.int .u64 a0_9) := (blk_cell BK231.out 9).trans rfl
                    have hcz42_10 : wc.cell? ⟨gb231, 10, none⟩ = some (.int .u64 a0_10) := (blk_cell BK231.out 10).trans rfl
                    have hcz42_11 : wc.cell? ⟨gb231, 11, none⟩ = some (.string a0_11) := (blk_cell BK231.out 11).trans rfl
                    have hcz42_12 : wc.cell? ⟨gb231, 12, none⟩ = some (.slice A0_12 l0_12.length c0_12) := (blk_cell BK231.out 12).trans rfl
                    have hfz42_0 := blk_frozen BK231.out 0
                    have hfz42_1 := blk_frozen BK231.out 1
                    have hfz42_2 := blk_frozen BK231.out 2
                    have hfz42_3 := blk_frozen BK231.out 3
                    have hfz42_4 := blk_frozen BK231.out 4
                    have hfz42_5 := blk_frozen BK231.out 5
                    have hfz42_6 := blk_frozen BK231.out 6
                    have hfz42_7 := blk_frozen BK231.out 7
                    have hfz42_8 := blk_frozen BK231.out 8
                    have hfz42_9 := blk_frozen BK231.out 9
                    have hfz42_10 := blk_frozen BK231.out 10
                    have hfz42_11 := blk_frozen BK231.out 11
                    have hfz42_12 := blk_frozen BK231.out 12
                    go_wp2
                    go_ret
                    exact ⟨by first | rfl | (simp [errW_none, errW_some] <;> rfl) | (simp [*, errW_none, errW_some] <;> rfl), by repeat (first | (with_reducible first | exact HB.out | apply below_alloc | apply pw_below_drewN | apply below_drew1 | refine below_set ?_ GE231.out) | exact HB.out)⟩
                · rw [if_neg c36] at H
                  have c36b0 : (a0_11.toList == ([] : List UInt8)) = false := beq_eq_false_iff_ne.mpr c36
                  have c36b1 : (a0_11.toList != ([] : List UInt8)) = true := bne_iff_ne.mpr c36
                  obtain rfl := Option.some.inj H
                  have hcz43_0 : wc.cell? ⟨gb231, 0, none⟩ = some (.int .i64 a0_0) := (blk_cell BK231.out 0).trans rfl
                  have hcz43_1 : wc.cell? ⟨gb231, 1, none⟩ = some (.int .u64 a0_1) := (blk_cell BK231.out 1).trans rfl
                  have hcz43_2 : wc.cell? ⟨gb231, 2, none⟩ = some (.int .u64 a0_2) := (blk_cell BK231.out 2).trans rfl
                  have hcz43_3 : wc.cell? ⟨gb231, 3, none⟩ = some (.int .u64 a0_3) := (blk_cell BK231.out 3).trans rfl
                  have hcz43_4 : wc.cell? ⟨gb231, 4, none⟩ = some (.string a0_4) := (blk_cell BK231.out 4).trans rfl
                  have hcz43_5 : wc.cell? ⟨gb231, 5, none⟩ = some (.string a0_5) := (blk_cell BK231.out 5).trans rfl
                  have hcz43_6 : wc.cell? ⟨gb231, 6, none⟩ = some (.int .u64 a0_6) := (blk_cell BK231.out 6).trans rfl
                  have hcz43_7 : wc.cell? ⟨gb231, 7, none⟩ = some (.int .u64 a0_7) := (blk_cell BK231.out 7).trans rfl
                  have hcz43_8 : wc.cell? ⟨gb231, 8, none⟩ = some (.string a0_8) := (blk_cell BK231.out 8).trans rfl
                  have hcz43_9 : wc.cell? ⟨gb231, 9, none⟩ = some (.int .u64 a0_9) := (blk_cell BK231.out 9).trans rfl
                  have hcz43_10 : wc.cell? ⟨gb231, 10, none⟩ = some (.int .u64 a0_10) := (blk_cell BK231.out 10).trans rfl
                  have hcz43_11 : wc.cell? ⟨gb231, 11, none⟩ = some (.string a0_11) := (blk_cell BK231.out 11).trans rfl
                  have hcz43_12 : wc.cell? ⟨gb231, 12, none⟩ = some (.slice A0_12 l0_12.length c0_12) := (blk_cell BK231.out 12).trans rfl
                  have hfz43_0 := blk_frozen BK231.out 0
                  have hfz43_1 := blk_frozen BK231.out 1
                  have hfz43_2 := blk_frozen BK231.out 2
                  have hfz43_3 := blk_frozen BK231.out 3
                  have hfz43_4 := blk_frozen BK231.out 4
                  have hfz43_5 := blk_frozen BK231.out 5
                  have hfz43_6 := blk_frozen BK231.out 6
                  have hfz43_7 := blk_frozen BK231.out 7
                  have hfz43_8 := blk_frozen BK231.out 8
                  have hfz43_9 := blk_frozen BK231.out 9
                  have hfz43_10 := blk_frozen BK231.out 10
                  have hfz43_11 := blk_frozen BK231.out 11
                  have hfz43_12 := blk_frozen BK231.out 12
                  go_wp2
                  go_ret
                  exact ⟨by first | rfl | (simp [errW_none, errW_some] <;> rfl) | (simp [*, errW_none, errW_some] <;> rfl), by repeat (first | (with_reducible first | exact HB.out | apply below_alloc | apply pw_below_drewN | apply below_drew1 | refine below_set ?_ GE231.out) | exact HB.out)⟩
              · rw [if_neg c35] at H
                have c35b0 : (a0_8.toList == ([] : List UInt8)) = false := beq_eq_false_iff_ne.mpr c35
                have c35b1 : (a0_8.toList != ([] : List UInt8)) = true := bne_iff_ne.mpr c35
                obtain rfl := Option.some.inj H
                have hcz44_0 : wc.cell? ⟨gb231, 0, none⟩ = some (.int .i64 a0_0) := (blk_cell BK231.out 0).trans rfl
                have hcz44_1 : wc.cell? ⟨gb231, 1, none⟩ = some (.int .u64 a0_1) := (blk_cell BK231.out 1).trans rfl
                have hcz44_2 : wc.cell? ⟨gb231, 2, none⟩ = some (.int .u64 a0_2) := (blk_cell BK231.out 2).trans rfl
                have hcz44_3 : wc.cell? ⟨gb231, 3, none⟩ = some (.int .u64 a0_3) := (blk_cell BK231.out 3).trans rfl
                have hcz44_4 : wc.cell? ⟨gb231, 4, none⟩ = some (.string a0_4) := (blk_cell BK231.out 4).trans rfl
                have hcz44_5 : wc.cell? ⟨gb231, 5, none⟩ = some (.string a0_5) := (blk_cell BK231.out 5).trans rfl
                have hcz44_6 : wc.cell? ⟨gb231, 6, none⟩ = some (.int .u64 a0_6) := (blk_cell BK231.out 6).trans rfl
                have hcz44_7 : wc.cell? ⟨gb231, 7, none⟩ = some (.int .u64 a0_7) := (blk_cell BK231.out 7).trans rfl
                have hcz44_8 : wc.cell? ⟨gb231, 8, none⟩ = some (.string a0_8) := (blk_cell BK231.out 8).trans rfl
                have hcz44_9 : wc.cell? ⟨gb231, 9, none⟩ = some (.int .u64 a0_9) := (blk_cell BK231.out 9).trans rfl
                have hcz44_10 : wc.cell? ⟨gb231, 10, none⟩ = some (.int .u64 a0_10) := (blk_cell BK231.out 10).trans rfl
                have hcz44_11 : wc.cell? ⟨gb231, 11, none⟩ = some (.string a0_11) := (blk_cell BK231.out 11).trans rfl
                have hcz44_12 : wc.cell? ⟨gb231, 12, none⟩ = some (.slice A0_12 l0_12.length c0_12) := (blk_cell BK231.out 12).trans rfl
                have hfz44_0 := blk_frozen BK231.out 0
                have hfz44_1 := blk_frozen BK231.out 1
                have hfz44_2 := blk_frozen BK231.out 2
                have hfz44_3 := blk_frozen BK231.out 3
                have hfz44_4 := blk_frozen BK231.out 4
                have hfz44_5 := blk_frozen BK231.out 5
                have hfz44_6 := blk_frozen BK231.out 6
                have hfz44_7 := blk_frozen BK231.out 7
                have hfz44_8 := blk_frozen BK231.out 8
                have hfz44_9 := blk_frozen BK231.out 9
                have hfz44_10 := blk_frozen BK231.out 10
                have hfz44_11 := blk_frozen BK231.out 11
                have hfz44_12 := blk_frozen BK231.out 12
                go_wp2
                go_ret
                exact ⟨by first | rfl | (simp [errW_none, errW_some] <;> rfl) | (simp [*, errW_none, errW_some] <;> rfl), by repeat (first | (with_reducible first | exact HB.out | apply below_alloc | apply pw_below_drewN | apply below_drew1 | refine below_set ?_ GE231.out) | exact HB.out)⟩
            · rw [if_neg c34] at H
              have c34b0 : (a0_0 == 2) = false := beq_eq_false_iff_ne.mpr c34
              have c34b1 : (a0_0 != 2) = true := bne_iff_ne.mpr c34
              obtain rfl := Option.some.inj H
              have hcz45_0 : wc.cell? ⟨gb231, 0, none⟩ = some (.int .i64 a0_0) := (blk_cell BK231.out 0).trans rfl
              have hcz45_1 : wc.cell? ⟨gb231, 1, none⟩ = some (.int .u64 a0_1) := (blk_cell BK231.out 1).trans rfl
              have hcz45_2 : wc.cell? ⟨gb231, 2, none⟩ = some (.int .u64 a0_2) := (blk_cell BK231.out 2).trans rfl
              have hcz45_3 : wc.cell? ⟨gb231, 3, none⟩ = some (.int .u64 a0_3) := (blk_cell BK231.out 3).trans rfl
              have hcz45_4 : wc.cell? ⟨gb231, 4, none⟩ = some (.string a0_4) := (blk_cell BK231.out 4).trans rfl
              have hcz45_5 : wc.cell? ⟨gb231, 5, none⟩ = some (.string a0_5) := (blk_cell BK231.out 5).trans rfl
              have hcz45_6 : wc.cell? ⟨gb231, 6, none⟩ = some (.int .u64 a0_6) := (blk_cell BK231.out 6).trans rfl
              have hcz45_7 : wc.cell? ⟨gb231, 7, none⟩ = some (.int .u64 a0_7) := (blk_cell BK231.out 7).trans rfl
              have hcz45_8 : wc.cell? ⟨gb231, 8, none⟩ = some (.string a0_8) := (blk_cell BK231.out 8).trans rfl
              have hcz45_9 : wc.cell? ⟨gb231, 9, none⟩ = some (.int .u64 a0_9) := (blk_cell BK231.out 9).trans rfl
              have hcz45_10 : wc.cell? ⟨gb231, 10, none⟩ = some (.int .u64 a0_10) := (blk_cell BK231.out 10).trans rfl
              have hcz45_11 : wc.cell? ⟨gb231, 11, none⟩ = some (.string a0_11) := (blk_cell BK231.out 11).trans rfl
              have hcz45_12 : wc.cell? ⟨gb231, 12, none⟩ = some (.slice A0_12 l0_12.length c0_12) := (blk_cell BK231.out 12).trans rfl
              have hfz45_0 := blk_frozen BK231.out 0
              have hfz45_1 := blk_frozen BK231.out 1
              have hfz45_2 := blk_frozen BK231.out 2
              have hfz45_3 := blk_frozen BK231.out 3
              have hfz45_4 := blk_frozen BK231.out 4
              have hfz45_5 := blk_frozen BK231.out 5
              have hfz45_6 := blk_frozen BK231.out 6
              have hfz45_7 := blk_frozen BK231.out 7
              have hfz45_8 := blk_frozen BK231.out 8
              have hfz45_9 := blk_frozen BK231.out 9
              have hfz45_10 := blk_frozen BK231.out 10
              have hfz45_11 := blk_frozen BK231.out 11
              have hfz45_12 := blk_frozen BK231.out 12
              go_wp2
              go_ret
              exact ⟨by first | rfl | (simp [errW_none, errW_some] <;> rfl) | (simp [*, errW_none, errW_some] <;> rfl), by repeat (first | (with_reducible first | exact HB.out | apply below_alloc | apply pw_below_drewN | apply below_drew1 | refine below_set ?_ GE231.out) | exact HB.out)⟩

end Go.Proofs.Ytfghjahmnjghgaa.PFr

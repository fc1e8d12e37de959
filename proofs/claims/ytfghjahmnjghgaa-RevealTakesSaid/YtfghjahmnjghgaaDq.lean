import Derived.Test.YtfghjahmnjghgaaProg
import Derived.Below
import Derived.Deep.Draws
import Derived.Deep.AppendLies
import Derived.Maps.AppendAt
import Derived.OwnWalk
import Derived.Laws.BytesArg
import Derived.Laws.MakeOwn
import Derived.Laws.OwnMore
import Derived.Deep.OwnRows
import Derived.Tactics
import Derived.Lib.ConvBytes
import Derived.Laws.Slices
import Derived.WalkKit
import Derived.KernelRfl
import Derived.RowKit3
import Derived.Deep.LoopGhost
import Derived.Deep.QuietTactic
import Derived.BigQuiet
import Derived.WideLaws
import Derived.Deep.DeepCutAuto
import Derived.Deep.CutBlock
import Derived.Deep.RegionHeld3
import Derived.Laws.Rows
import Derived.Lib.AppendStr
import Derived.ArgAppend
import Derived.Laws.IdiomCopy
import Derived.OrdersHeld
import Derived.Laws.BitsLemmas
import Derived.RowKit
import Derived.Test.YtfghjahmnjghgaaVa
namespace Go.Proofs.Ytfghjahmnjghgaa.PFr
open Go.RowKit Go.Proofs.YtfghjahmnjghgaaW.PrintWords Go.Proofs.YtfghjahmnjghgaaW.PrintLast Go.Proofs.YtfghjahmnjghgaaW.PrintMore
attribute [local go_sem] max2_int min2_int max_two min_two max_three min_three max_four min_four   -- for this text's walks alone
set_option linter.unusedVariables false
set_option linter.unusedSimpArgs false

def errW : Option Int → Value
  | none => .nilIface
  | some c => .iface 0 (.int .i64 c)
theorem errW_none : errW none = .nilIface := rfl
theorem errW_some (c : Int) : errW (some c) = .iface 0 (.int .i64 c) := rfl

theorem info5 : (Try.prog.info? 5).map (fun i => (i.zero, i.size, i.bytes)) = some (some (.int .u8 0), 1, 1) := by kernel_rfl
theorem info9 : (Try.prog.info? 9).map (fun i => (i.zero, i.size, i.bytes)) = some (some (.string ⟨#[]⟩), 1, 16) := by kernel_rfl
theorem info67 : (Try.prog.info? 67).map (fun i => (i.zero, i.size, i.bytes)) = some (some (.agg #[(.bool false), (.int .u64 0), (.string ⟨#[]⟩)]), 3, 32) := by kernel_rfl
-- the values' own types
/-! #### struct type 67 -/
structure S67 where
  f0 : Bool
  f1 : Int
  f2 : ByteArray
def z67 : S67 := ⟨false, (0 : Int), (⟨#[]⟩ : ByteArray)⟩
def k67 : Kd S67 := Kd.iso (Kd.pair Kd.bool (Kd.pair (Kd.int .u64) Kd.string)) (fun x : S67 => (x.f0, x.f1, x.f2))
theorem k67_open {w : World} {x : S67} {cs : List Value} (h : k67.K w x cs) : cs = [.bool x.f0, .int .u64 x.f1, .string x.f2] := by
  obtain ⟨_, _, rfl, rfl, ⟨_, _, rfl, rfl, rfl⟩⟩ := h
  exact rfl
theorem k67_openM {w : World} {base : Nat} {ok : Nat → Prop} {x : S67} {cs : List Value} (h : k67.M w base ok x cs) : cs = [.bool x.f0, .int .u64 x.f1, .string x.f2] := by
  obtain ⟨_, _, rfl, rfl, ⟨_, _, rfl, rfl, rfl⟩⟩ := h
  exact rfl
theorem k67_mk (w : World) (x : S67)  : k67.K w x [.bool x.f0, .int .u64 x.f1, .string x.f2] := ⟨[.bool x.f0], [.int .u64 x.f1, .string x.f2], rfl, rfl, ⟨[.int .u64 x.f1], [.string x.f2], rfl, rfl, rfl⟩⟩
theorem k67_mkM (w : World) (base : Nat) (ok : Nat → Prop) (x : S67)  : k67.M w base ok x [.bool x.f0, .int .u64 x.f1, .string x.f2] := ⟨[.bool x.f0], [.int .u64 x.f1, .string x.f2], rfl, rfl, ⟨[.int .u64 x.f1], [.string x.f2], rfl, rfl, rfl⟩⟩
theorem k67_mkF (W : World) (ok : Nat → Prop) (x : S67) : Kd.FK k67 W ok x [.bool x.f0, .int .u64 x.f1, .string x.f2] := fun W2 _ => k67_mk W2 x
def rd_T67 (xs : List S67) (i : Int) : S67 := xs.getD i.toNat z67
theorem at_T67 {w : World} {A : Option Addr} {n : Nat} {xs : List S67} (h : Kd.C k67 w A n xs) (i : Int) (h0 : 0 ≤ i) (h1 : i < n) : ∃ ad , A = some ad ∧ w.cell? (ad.add (i.toNat * 3)) = some (.bool (rd_T67 xs i).f0) ∧ w.cell? ⟨(ad.add (i.toNat * 3)).block, (ad.add (i.toNat * 3)).off + 1, none⟩ = some (.int .u64 (rd_T67 xs i).f1) ∧ w.cell? ⟨(ad.add (i.toNat * 3)).block, (ad.add (i.toNat * 3)).off + 2, none⟩ = some (.string (rd_T67 xs i).f2) := by
  obtain ⟨ad, c, e, _, hK, hc0⟩ := Kd.C_get h z67 i h0 h1
  have hc : ∀ j u, c[j]? = some u → w.cell? (ad.add (i.toNat * 3 + j)) = some u := hc0
  obtain rfl := k67_open hK
  exact ⟨ad, e, hc 0 _ rfl, by rw [← add_field _ _ 1 (by omega)]; exact hc 1 _ rfl, by rw [← add_field _ _ 2 (by omega)]; exact hc 2 _ rfl⟩

end Go.Proofs.Ytfghjahmnjghgaa.PFr

namespace Go.Proofs.Ytfghjahmnjghgaa.PFr
open Go.RowKit Go.Proofs.YtfghjahmnjghgaaW.PrintWords Go.Proofs.YtfghjahmnjghgaaW.PrintLast Go.Proofs.YtfghjahmnjghgaaW.PrintMore
attribute [local go_sem] max2_int min2_int max_two min_two max_three min_three max_four min_four   -- for this text's walks alone
set_option linter.unusedVariables false
set_option linter.unusedSimpArgs false

/-! ### slices_Equal_string_string: function 31 -/
def slices_Equal_string_string.l0 : Nat → List ByteArray → List ByteArray → Int → Int → Option (Bool)
  | 0, _, _, _, _ => none
  | k + 1, x0, x1, x12, x13 => if x13 < x12 then (if 0 ≤ x13 then (if x13 < (x0.length : Int) then (if x13 < (x1.length : Int) then (if (rdOf ByteArray.empty x0 x13).toList = (rdOf ByteArray.empty x1 x13).toList then (slices_Equal_string_string.l0 k x0 x1 x12 (wrap64 (x13 + 1))) else (some false)) else (none)) else (none)) else (none)) else (some true)
def slices_Equal_string_string.f (k : Nat) (l0 : List ByteArray) (l1 : List ByteArray) : Option (Bool) := if (l0.length : Int) = (l1.length : Int) then (slices_Equal_string_string.l0 k l0 l1 (l0.length : Int) 0) else (some false)
theorem slices_Equal_string_string.mono_l : ∀ k, (∀ y0 y1 y2 y3, LeO (slices_Equal_string_string.l0 k y0 y1 y2 y3) (slices_Equal_string_string.l0 (k + 1) y0 y1 y2 y3))
  | 0 => fun _ _ _ _ r h => by simp [slices_Equal_string_string.l0] at h
  | k + 1 => by
    have ih0 := slices_Equal_string_string.mono_l k
    · intro y0 y1 y2 y3
      unfold slices_Equal_string_string.l0
      repeat' first
      | (with_reducible exact ih0 _ _ _ _)
      | (with_reducible exact LeO.refl _)
      | (with_reducible exact LeO.none _)
      | (with_reducible refine LeO.ite ?_ ?_)
      | (with_reducible refine LeO.bind ?_ (fun _ => ?_))
      | exact ih0 _ _ _ _
      | exact LeO.none _
      | refine LeO.ite ?_ ?_
      | refine LeO.bind ?_ (fun _ => ?_)
theorem slices_Equal_string_string.mono : ∀ a0 a1 k, LeO (slices_Equal_string_string.f k a0 a1) (slices_Equal_string_string.f (k + 1) a0 a1) := by
  intro a0 a1 k
  have ih0 := slices_Equal_string_string.mono_l k
  unfold slices_Equal_string_string.f
  repeat' first
      | (with_reducible exact ih0 _ _ _ _)
      | (with_reducible exact LeO.refl _)
      | (with_reducible exact LeO.none _)
      | (with_reducible refine LeO.ite ?_ ?_)
      | (with_reducible refine LeO.bind ?_ (fun _ => ?_))
      | exact ih0 _ _ _ _
      | exact LeO.none _
      | refine LeO.ite ?_ ?_
      | refine LeO.bind ?_ (fun _ => ?_)
set_option maxHeartbeats 8000000 in
set_option maxRecDepth 100000 in
theorem slices_Equal_string_string.calls (k : Nat) (A0 : Option Addr) (c0 : Nat) (l0 : List ByteArray) (A1 : Option Addr) (c1 : Nat) (l1 : List ByteArray) (r : Bool) (w : World) (hr0 : Kd.C Kd.string w A0 l0.length l0) (hc0 : l0.length ≤ c0) (hr1 : Kd.C Kd.string w A1 l1.length l1) (hc1 : l1.length ≤ c1) (h : slices_Equal_string_string.f k l0 l1 = some r) :
    Calls Try.prog 31 #[.slice A0 l0.length c0, .slice A1 l1.length c1] w fun e w' => e = .returned (.bool r) ∧ Drawn0 w w' := by
  have HR0 := Aside0.mk hr0
  have HC0 := Aside0.mk hc0
  clear hr0 hc0
  have HR1 := Aside0.mk hr1
  have HC1 := Aside0.mk hc1
  clear hr1 hc1
  have H : (if (l0.length : Int) = (l1.length : Int) then (slices_Equal_string_string.l0 k l0 l1 (l0.length : Int) 0) else (some false)) = some r := h
  clear h
  by_cases c3 : (l0.length : Int) = (l1.length : Int)
  · rw [if_pos c3] at H
    have c3b0 : ((l0.length : Int) == (l1.length : Int)) = true := beq_iff_eq.mpr c3
    have c3b1 : ((l0.length : Int) != (l1.length : Int)) = false := bne_eq_false_iff_eq.mpr c3
    have c3b2 : (l0.length == l1.length) = true := by first | simpa using c3 | (simp at c3 ⊢; omega)
    clear c3
    have H' := Aside0.mk H
    clear H
    go_enter Try.func31, Try.ntmps31
    go_wp2
    repeat (go_quiet (fail); try go_wp2)
    go_loopg [13] k (fun kq v13 w' => ∃ (x13_1 : Int), v13 = .int .i64 x13_1 ∧ Aside0 (slices_Equal_string_string.l0 kq l0 l1 (l0.length : Int) x13_1 = some r) ∧ Aside0 (kq ≤ k) ∧ Drawn0 w w')
    case atStart => exact ⟨(0), (by first | rfl | (simp; done) | (simp [*]; done)), H', ⟨Nat.le_refl _⟩, by repeat (first | exact Drawn0.refl _ | apply Drawn0.step)⟩
    case round =>
      clear H'
      try clear c1
      try clear p2
      try clear c3
      try clear c3b0
      try clear c3b1
      try clear c3b2
      obtain ⟨x13_1, rfl, HA, HK1, ⟨m1, rfl⟩⟩ := hrel
      cases gk with
      | zero => exact absurd HA.out (by simp [slices_Equal_string_string.l0])
      | succ k1 =>
        have H := HA.out
        clear HA
        simp only [slices_Equal_string_string.l0] at H
        by_cases c4 : x13_1 < (l0.length : Int)
        · rw [if_pos c4] at H
          have c4b0 : decide (x13_1 < (l0.length : Int)) = true := decide_eq_true c4
          clear c4
          by_cases c5 : 0 ≤ x13_1
          · rw [if_pos c5] at H
            have c5b0 : decide (0 ≤ x13_1) = true := decide_eq_true c5
            clear c5
            by_cases c6 : x13_1 < (l0.length : Int)
            · rw [if_pos c6] at H
              have c6b0 : decide (x13_1 < (l0.length : Int)) = true := decide_eq_true c6
              clear c6
              by_cases c7 : x13_1 < (l1.length : Int)
              · rw [if_pos c7] at H
                have c7b0 : decide (x13_1 < (l1.length : Int)) = true := decide_eq_true c7
                clear c7
                by_cases c8 : (rdOf ByteArray.empty l0 x13_1).toList = (rdOf ByteArray.empty l1 x13_1).toList
                · rw [if_pos c8] at H
                  have c8b0 : ((rdOf ByteArray.empty l0 x13_1).toList == (rdOf ByteArray.empty l1 x13_1).toList) = true := beq_iff_eq.mpr c8
                  have c8b1 : ((rdOf ByteArray.empty l0 x13_1).toList != (rdOf ByteArray.empty l1 x13_1).toList) = false := bne_eq_false_iff_eq.mpr c8
                  clear c8
                  have H' := Aside0.mk H
                  clear H
                  have p106 : 0 ≤ (x13_1 : Int) := of_decide_eq_true (by first | (with_reducible assumption) | assumption)
                  have q106 : x13_1 < (l0.length : Int) := of_decide_eq_true (by first | (with_reducible assumption) | assumption)
                  obtain ⟨ad106, e106, hx106_0⟩ := Kd.at_string HR0.out x13_1 p106 q106
                  cases e106
                  replace p106 := eq_true p106
                  replace q106 := eq_true q106
                  have p107 : 0 ≤ (x13_1 : Int) := of_decide_eq_true (by first | (with_reducible assumption) | assumption)
                  have q107 : x13_1 < (l1.length : Int) := of_decide_eq_true (by first | (with_reducible assumption) | assumption)
                  obtain ⟨ad107, e107, hx107_0⟩ := Kd.at_string HR1.out x13_1 p107 q107
                  cases e107
                  replace p107 := eq_true p107
                  replace q107 := eq_true q107
                  go_wp2
                  repeat (go_quiet (fail); try go_wp2)
                  go_roundg k1
                  case measure => have := HK1.out; omega
                  case rel => exact ⟨(wrap64 (x13_1 + 1)), (by first | rfl | (simp; done) | (simp [*]; done)), H', ⟨by have := HK1.out; omega⟩, by repeat (first | exact Drawn0.refl _ | apply Drawn0.step)⟩
                · rw [if_neg c8] at H
                  have c8b0 : ((rdOf ByteArray.empty l0 x13_1).toList == (rdOf ByteArray.empty l1 x13_1).toList) = false := beq_eq_false_iff_ne.mpr c8
                  have c8b1 : ((rdOf ByteArray.empty l0 x13_1).toList != (rdOf ByteArray.empty l1 x13_1).toList) = true := bne_iff_ne.mpr c8
                  obtain rfl := Option.some.inj H
                  have p106 : 0 ≤ (x13_1 : Int) := of_decide_eq_true (by first | (with_reducible assumption) | assumption)
                  have q106 : x13_1 < (l0.length : Int) := of_decide_eq_true (by first | (with_reducible assumption) | assumption)
                  obtain ⟨ad106, e106, hx106_0⟩ := Kd.at_string HR0.out x13_1 p106 q106
                  cases e106
                  replace p106 := eq_true p106
                  replace q106 := eq_true q106
                  have p107 : 0 ≤ (x13_1 : Int) := of_decide_eq_true (by first | (with_reducible assumption) | assumption)
                  have q107 : x13_1 < (l1.length : Int) := of_decide_eq_true (by first | (with_reducible assumption) | assumption)
                  obtain ⟨ad107, e107, hx107_0⟩ := Kd.at_string HR1.out x13_1 p107 q107
                  cases e107
                  replace p107 := eq_true p107
                  replace q107 := eq_true q107
                  go_wp2
                  repeat (go_quiet (fail); try go_wp2)
                  go_ret
                  exact ⟨by first | rfl | (simp; done) | (simp [*]; done), by repeat (first | exact Drawn0.refl _ | apply Drawn0.step)⟩
              · rw [if_neg c7] at H
                exact absurd H (by simp)
            · rw [if_neg c6] at H
              exact absurd H (by simp)
          · rw [if_neg c5] at H
            exact absurd H (by simp)
        · rw [if_neg c4] at H
          have c4b0 : decide (x13_1 < (l0.length : Int)) = false := decide_eq_false c4
          clear c4
          obtain rfl := Option.some.inj H
          go_wp2
          repeat (go_quiet (fail); try go_wp2)
          go_ret
          exact ⟨by first | rfl | (simp; done) | (simp [*]; done), by repeat (first | exact Drawn0.refl _ | apply Drawn0.step)⟩
  · rw [if_neg c3] at H
    have c3b0 : ((l0.length : Int) == (l1.length : Int)) = false := beq_eq_false_iff_ne.mpr c3
    have c3b1 : ((l0.length : Int) != (l1.length : Int)) = true := bne_iff_ne.mpr c3
    have c3b2 : (l0.length == l1.length) = false := by first | simpa using c3 | (simp at c3 ⊢; omega)
    obtain rfl := Option.some.inj H
    go_enter Try.func31, Try.ntmps31
    go_wp2
    repeat (go_quiet (fail); try go_wp2)
    go_ret
    exact ⟨by first | rfl | (simp; done) | (simp [*]; done), by repeat (first | exact Drawn0.refl _ | apply Drawn0.step)⟩

/-! ### demurralref08_keys: function 30 -/
def demurralref08_keys.l0 : Nat → List ByteArray → List ByteArray → Int → Int → Option (Bool)
  | 0, _, _, _, _ => none
  | k + 1, x0, x5, x6, x7 => if x7 < x6 then (if 0 ≤ x7 then (if x7 < (x5.length : Int) then (if ((rdOf ByteArray.empty x5 x7).size : Int) = 32 then (demurralref08_keys.l0 k x0 x5 x6 (wrap64 (x7 + 1))) else (some false)) else (none)) else (none)) else (some (decide ((x0.length : Int) ≤ 32)))
def demurralref08_keys.f (k : Nat) (l0 : List ByteArray) : Option (Bool) := demurralref08_keys.l0 k l0 l0 (l0.length : Int) 0
theorem demurralref08_keys.mono_l : ∀ k, (∀ y0 y1 y2 y3, LeO (demurralref08_keys.l0 k y0 y1 y2 y3) (demurralref08_keys.l0 (k + 1) y0 y1 y2 y3))
  | 0 => fun _ _ _ _ r h => by simp [demurralref08_keys.l0] at h
  | k + 1 => by
    have ih0 := demurralref08_keys.mono_l k
    · intro y0 y1 y2 y3
      unfold demurralref08_keys.l0
      repeat' first
      | (with_reducible exact ih0 _ _ _ _)
      | (with_reducible exact LeO.refl _)
      | (with_reducible exact LeO.none _)
      | (with_reducible refine LeO.ite ?_ ?_)
      | (with_reducible refine LeO.bind ?_ (fun _ => ?_))
      | exact ih0 _ _ _ _
      | exact LeO.none _
      | refine LeO.ite ?_ ?_
      | refine LeO.bind ?_ (fun _ => ?_)
theorem demurralref08_keys.mono : ∀ a0 k, LeO (demurralref08_keys.f k a0) (demurralref08_keys.f (k + 1) a0) := by
  intro a0 k
  have ih0 := demurralref08_keys.mono_l k
  unfold demurralref08_keys.f
  repeat' first
      | (with_reducible exact ih0 _ _ _ _)
      | (with_reducible exact LeO.refl _)
      | (with_reducible exact LeO.none _)
      | (with_reducible refine LeO.ite ?_ ?_)
      | (with_reducible refine LeO.bind ?_ (fun _ => ?_))
      | exact ih0 _ _ _ _
      | exact LeO.none _
      | refine LeO.ite ?_ ?_
      | refine LeO.bind ?_ (fun _ => ?_)
set_option maxHeartbeats 8000000 in
set_option maxRecDepth 100000 in
theorem demurralref08_keys.calls (k : Nat) (A0 : Option Addr) (c0 : Nat) (l0 : List ByteArray) (r : Bool) (w : World) (hr0 : Kd.C Kd.string w A0 l0.length l0) (hc0 : l0.length ≤ c0) (h : demurralref08_keys.f k l0 = some r) :
    Calls Try.prog 30 #[.slice A0 l0.length c0] w fun e w' => e = .returned (.bool r) ∧ Drawn0 w w' := by
  have HR0 := Aside0.mk hr0
  have HC0 := Aside0.mk hc0
  clear hr0 hc0
  have H : (demurralref08_keys.l0 k l0 l0 (l0.length : Int) 0) = some r := h
  clear h
  have H' := Aside0.mk H
  clear H
  go_enter Try.func30, Try.ntmps30
  go_wp2
  go_loopg [7] k (fun kq v7 w' => ∃ (x7_1 : Int), v7 = .int .i64 x7_1 ∧ Aside0 (demurralref08_keys.l0 kq l0 l0 (l0.length : Int) x7_1 = some r) ∧ Aside0 (kq ≤ k) ∧ Drawn0 w w')
  case atStart => exact ⟨(0), (by first | rfl | (simp; done) | (simp [*]; done)), H', ⟨Nat.le_refl _⟩, by repeat (first | exact Drawn0.refl _ | apply Drawn0.step)⟩
  case round =>
    clear H'
    obtain ⟨x7_1, rfl, HA, HK1, ⟨m1, rfl⟩⟩ := hrel
    cases gk with
    | zero => exact absurd HA.out (by simp [demurralref08_keys.l0])
    | succ k1 =>
      have H := HA.out
      clear HA
      simp only [demurralref08_keys.l0] at H
      by_cases c2 : x7_1 < (l0.length : Int)
      · rw [if_pos c2] at H
        have c2b0 : decide (x7_1 < (l0.length : Int)) = true := decide_eq_true c2
        clear c2
        by_cases c3 : 0 ≤ x7_1
        · rw [if_pos c3] at H
          have c3b0 : decide (0 ≤ x7_1) = true := decide_eq_true c3
          clear c3
          by_cases c4 : x7_1 < (l0.length : Int)
          · rw [if_pos c4] at H
            have c4b0 : decide (x7_1 < (l0.length : Int)) = true := decide_eq_true c4
            clear c4
            by_cases c5 : ((rdOf ByteArray.empty l0 x7_1).size : Int) = 32
            · rw [if_pos c5] at H
              have c5b0 : (((rdOf ByteArray.empty l0 x7_1).size : Int) == 32) = true := beq_iff_eq.mpr c5
              have c5b1 : (((rdOf ByteArray.empty l0 x7_1).size : Int) != 32) = false := bne_eq_false_iff_eq.mpr c5
              clear c5
              have H' := Aside0.mk H
              clear H
              have p230 : 0 ≤ (x7_1 : Int) := of_decide_eq_true (by first | (with_reducible assumption) | assumption)
              have q230 : x7_1 < (l0.length : Int) := of_decide_eq_true (by first | (with_reducible assumption) | assumption)
              obtain ⟨ad230, e230, hx230_0⟩ := Kd.at_string HR0.out x7_1 p230 q230
              cases e230
              replace p230 := eq_true p230
              replace q230 := eq_true q230
              go_wp2
              go_roundg k1
              case measure => have := HK1.out; omega
              case rel => exact ⟨(wrap64 (x7_1 + 1)), (by first | rfl | (simp; done) | (simp [*]; done)), H', ⟨by have := HK1.out; omega⟩, by repeat (first | exact Drawn0.refl _ | apply Drawn0.step)⟩
            · rw [if_neg c5] at H
              have c5b0 : (((rdOf ByteArray.empty l0 x7_1).size : Int) == 32) = false := beq_eq_false_iff_ne.mpr c5
              have c5b1 : (((rdOf ByteArray.empty l0 x7_1).size : Int) != 32) = true := bne_iff_ne.mpr c5
              obtain rfl := Option.some.inj H
              have p230 : 0 ≤ (x7_1 : Int) := of_decide_eq_true (by first | (with_reducible assumption) | assumption)
              have q230 : x7_1 < (l0.length : Int) := of_decide_eq_true (by first | (with_reducible assumption) | assumption)
              obtain ⟨ad230, e230, hx230_0⟩ := Kd.at_string HR0.out x7_1 p230 q230
              cases e230
              replace p230 := eq_true p230
              replace q230 := eq_true q230
              go_wp2
              go_ret
              exact ⟨by first | rfl | (simp; done) | (simp [*]; done), by repeat (first | exact Drawn0.refl _ | apply Drawn0.step)⟩
          · rw [if_neg c4] at H
            exact absurd H (by simp)
        · rw [if_neg c3] at H
          exact absurd H (by simp)
      · rw [if_neg c2] at H
        have c2b0 : decide (x7_1 < (l0.length : Int)) = false := decide_eq_false c2
        clear c2
        obtain rfl := Option.some.inj H
        go_wp2
        go_ret
        exact ⟨by first | rfl | (simp; done) | (simp [*]; done), by repeat (first | exact Drawn0.refl _ | apply Drawn0.step)⟩

/-! ### demurralref08_Right: function 9 -/
def demurralref08_Right.j0 : Nat → Bool → Int → Int → Int → Int → ByteArray → ByteArray → Int → Int → ByteArray → Int → Int → ByteArray → List ByteArray → Option (Bool)
  | 0, _, _, _, _, _, _, _, _, _, _, _, _, _, _ => none
  | k + 1, x51, x232000, x232001, x232002, x232003, x232004, x232005, x232006, x232007, x232008, x232009, x232010, x232011, x232012 => if x51 = true then (some false) else (if x232000 = 1 then (if (x232008.size : Int) = 32 then (if (x232011.size : Int) ≤ 1024 then (some ((x232012.length : Int) == 0)) else (some false)) else (some false)) else (if x232000 = 2 then (if x232008.toList = ([] : List UInt8) then (if x232011.toList = ([] : List UInt8) then (if x232009 = 0 then (if x232010 = 0 then ((demurralref08_keys.f k x232012).bind fun t232 => (some t232)) else (some false)) else (some false)) else (some false)) else (some false)) else (some false)))
def demurralref08_Right.f (k : Nat) (a0_0 : Int) (a0_1 : Int) (a0_2 : Int) (a0_3 : Int) (a0_4 : ByteArray) (a0_5 : ByteArray) (a0_6 : Int) (a0_7 : Int) (a0_8 : ByteArray) (a0_9 : Int) (a0_10 : Int) (a0_11 : ByteArray) (l0_12 : List ByteArray) : Option (Bool) := if a0_0 = 0 then (if (a0_4.size : Int) = 32 then (if (a0_5.size : Int) = 32 then (if (a0_8.size : Int) = 32 then (if (a0_11.size : Int) ≤ 1024 then (some ((l0_12.length : Int) == 0)) else (some false)) else (some false)) else (some false)) else (some false)) else (if a0_4.toList = ([] : List UInt8) then (if a0_5.toList = ([] : List UInt8) then (if a0_6 = 0 then (demurralref08_Right.j0 k (a0_7 != 0) a0_0 a0_1 a0_2 a0_3 a0_4 a0_5 a0_6 a0_7 a0_8 a0_9 a0_10 a0_11 l0_12) else (demurralref08_Right.j0 k true a0_0 a0_1 a0_2 a0_3 a0_4 a0_5 a0_6 a0_7 a0_8 a0_9 a0_10 a0_11 l0_12)) else (demurralref08_Right.j0 k true a0_0 a0_1 a0_2 a0_3 a0_4 a0_5 a0_6 a0_7 a0_8 a0_9 a0_10 a0_11 l0_12)) else (demurralref08_Right.j0 k true a0_0 a0_1 a0_2 a0_3 a0_4 a0_5 a0_6 a0_7 a0_8 a0_9 a0_10 a0_11 l0_12))
theorem demurralref08_Right.mono_l : ∀ k, (∀ y0 y1 y2 y3 y4 y5 y6 y7 y8 y9 y10 y11 y12 y13, LeO (demurralref08_Right.j0 k y0 y1 y2 y3 y4 y5 y6 y7 y8 y9 y10 y11 y12 y13) (demurralref08_Right.j0 (k + 1) y0 y1 y2 y3 y4 y5 y6 y7 y8 y9 y10 y11 y12 y13))
  | 0 => fun _ _ _ _ _ _ _ _ _ _ _ _ _ _ r h => by simp [demurralref08_Right.j0] at h
  | k + 1 => by
    have ih0 := demurralref08_Right.mono_l k
    · intro y0 y1 y2 y3 y4 y5 y6 y7 y8 y9 y10 y11 y12 y13
      unfold demurralref08_Right.j0
      repeat' first
      | (with_reducible exact ih0 _ _ _ _ _ _ _ _ _ _ _ _ _ _)
      | (with_reducible exact demurralref08_keys.mono _ _)
      | (with_reducible exact LeO.refl _)
      | (with_reducible exact LeO.none _)
      | (with_reducible refine LeO.ite ?_ ?_)
      | (with_reducible refine LeO.bind ?_ (fun _ => ?_))
      | exact ih0 _ _ _ _ _ _ _ _ _ _ _ _ _ _
      | exact demurralref08_keys.mono _ _
      | exact LeO.none _
      | refine LeO.ite ?_ ?_
      | refine LeO.bind ?_ (fun _ => ?_)
theorem demurralref08_Right.mono : ∀ a0 a1 a2 a3 a4 a5 a6 a7 a8 a9 a10 a11 a12 k, LeO (demurralref08_Right.f k a0 a1 a2 a3 a4 a5 a6 a7 a8 a9 a10 a11 a12) (demurralref08_Right.f (k + 1) a0 a1 a2 a3 a4 a5 a6 a7 a8 a9 a10 a11 a12) := by
  intro a0 a1 a2 a3 a4 a5 a6 a7 a8 a9 a10 a11 a12 k
  have ih0 := demurralref08_Right.mono_l k
  unfold demurralref08_Right.f
  repeat' first
      | (with_reducible exact ih0 _ _ _ _ _ _ _ _ _ _ _ _ _ _)
      | (with_reducible exact demurralref08_keys.mono _ _)
      | (with_reducible exact LeO.refl _)
      | (with_reducible exact LeO.none _)
      | (with_reducible refine LeO.ite ?_ ?_)
      | (with_reducible refine LeO.bind ?_ (fun _ => ?_))
      | exact ih0 _ _ _ _ _ _ _ _ _ _ _ _ _ _
      | exact demurralref08_keys.mono _ _
      | exact LeO.none _
      | refine LeO.ite ?_ ?_
      | refine LeO.bind ?_ (fun _ => ?_)
set_option maxHeartbeats 8000000 in
set_option maxRecDepth 100000 in
theorem demurralref08_Right.calls (k : Nat) (a0_0 : Int) (a0_1 : Int) (a0_2 : Int) (a0_3 : Int) (a0_4 : ByteArray) (a0_5 : ByteArray) (a0_6 : Int) (a0_7 : Int) (a0_8 : ByteArray) (a0_9 : Int) (a0_10 : Int) (a0_11 : ByteArray) (A0_12 : Option Addr) (c0_12 : Nat) (l0_12 : List ByteArray) (r : Bool) (w : World) (hr0_12 : Kd.C Kd.string w A0_12 l0_12.length l0_12) (hc0_12 : l0_12.length ≤ c0_12) (h : demurralref08_Right.f k a0_0 a0_1 a0_2 a0_3 a0_4 a0_5 a0_6 a0_7 a0_8 a0_9 a0_10 a0_11 l0_12 = some r) :
    Calls Try.prog 9 #[.agg #[.int .i64 a0_0, .int .u64 a0_1, .int .u64 a0_2, .int .u64 a0_3, .string a0_4, .string a0_5, .int .u64 a0_6, .int .u64 a0_7, .string a0_8, .int .u64 a0_9, .int .u64 a0_10, .string a0_11, .slice A0_12 l0_12.length c0_12]] w fun e w' => e = .returned (.bool r) ∧ Below w.heap.size w w' := by
  have hu25 := Try.underlying25
  have HR0_12 := Aside0.mk hr0_12
  have HC0_12 := Aside0.mk hc0_12
  clear hr0_12 hc0_12
  have HB := Aside0.mk (Below.refl w.heap.size w)
  have H : (if a0_0 = 0 then (if (a0_4.size : Int) = 32 then (if (a0_5.size : Int) = 32 then (if (a0_8.size : Int) = 32 then (if (a0_11.size : Int) ≤ 1024 then (some ((l0_12.length : Int) == 0)) else (some false)) else (some false)) else (some false)) else (some false)) else (if a0_4.toList = ([] : List UInt8) then (if a0_5.toList = ([] : List UInt8) then (if a0_6 = 0 then (demurralref08_Right.j0 k (a0_7 != 0) a0_0 a0_1 a0_2 a0_3 a0_4 a0_5 a0_6 a0_7 a0_8 a0_9 a0_10 a0_11 l0_12) else (demurralref08_Right.j0 k true a0_0 a0_1 a0_2 a0_3 a0_4 a0_5 a0_6 a0_7 a0_8 a0_9 a0_10 a0_11 l0_12)) else (demurralref08_Right.j0 k true a0_0 a0_1 a0_2 a0_3 a0_4 a0_5 a0_6 a0_7 a0_8 a0_9 a0_10 a0_11 l0_12)) else (demurralref08_Right.j0 k true a0_0 a0_1 a0_2 a0_3 a0_4 a0_5 a0_6 a0_7 a0_8 a0_9 a0_10 a0_11 l0_12))) = some r := h
  clear h
  by_cases c2 : a0_0 = 0
  · rw [if_pos c2] at H
    have c2b0 : (a0_0 == 0) = true := beq_iff_eq.mpr c2
    have c2b1 : (a0_0 != 0) = false := bne_eq_false_iff_eq.mpr c2
    clear c2
    by_cases c3 : (a0_4.size : Int) = 32
    · rw [if_pos c3] at H
      have c3b0 : ((a0_4.size : Int) == 32) = true := beq_iff_eq.mpr c3
      have c3b1 : ((a0_4.size : Int) != 32) = false := bne_eq_false_iff_eq.mpr c3
      clear c3
      by_cases c4 : (a0_5.size : Int) = 32
      · rw [if_pos c4] at H
        have c4b0 : ((a0_5.size : Int) == 32) = true := beq_iff_eq.mpr c4
        have c4b1 : ((a0_5.size : Int) != 32) = false := bne_eq_false_iff_eq.mpr c4
        clear c4
        by_cases c5 : (a0_8.size : Int) = 32
        · rw [if_pos c5] at H
          have c5b0 : ((a0_8.size : Int) == 32) = true := beq_iff_eq.mpr c5
          have c5b1 : ((a0_8.size : Int) != 32) = false := bne_eq_false_iff_eq.mpr c5
          clear c5
          by_cases c6 : (a0_11.size : Int) ≤ 1024
          · rw [if_pos c6] at H
            have c6b0 : decide ((a0_11.size : Int) ≤ 1024) = true := decide_eq_true c6
            have c6b1 : decide (a0_11.size ≤ 1024) = true := decide_eq_true (by omega)
            clear c6
            obtain rfl := Option.some.inj H
            go_enter Try.func9, Try.ntmps9
            go_wp2_with (first | ((with_reducible refine gate_dst (N := 1) rfl ?_); (try (refine gate_guard (by rfl) ?_; dsimp only)); refine box_event ?hg (N := 1) ?hd (cs := #[.int .i64 a0_0, .int .u64 a0_1, .int .u64 a0_2, .int .u64 a0_3, .string a0_4, .string a0_5, .int .u64 a0_6, .int .u64 a0_7, .string a0_8, .int .u64 a0_9, .int .u64 a0_10, .string a0_11, .slice A0_12 l0_12.length c0_12]) (t := 25) ?hr ?_; (case hd => rfl); (case hg => rfl); (case hr => first | (go_simp; done) | (go_simp; rfl)); intro gb231 hg w7 hbox hb; have n0_ := Aside0.mk (below_step (by repeat (first | (with_reducible first | exact HB.out | apply below_alloc | apply pw_below_drewN | apply below_drew1) | exact HB.out)) hb); have n1_ := Aside0.mk (hbox); have n2_ := Aside0.mk ((by rw [hg]; exact (below_size (by repeat (first | (with_reducible first | exact HB.out | apply below_alloc | apply pw_below_drewN | apply below_drew1) | exact HB.out))) : w.heap.size ≤ gb231)); have n3_ := Aside0.mk ((by rw [hg]; exact (below_size (by repeat (first | (with_reducible first | exact HB.out | apply below_alloc | apply pw_below_drewN | apply below_drew1) | exact HB.out))) : w.heap.size ≤ gb231)); clear HB; have HB := n0_; have BK231 := n1_; have GW231 := n2_; have GE231 := n3_; clear n0_ n1_ n2_ n3_; clear hb hbox hg; have hcz8_0 : w7.cell? ⟨gb231, 0, none⟩ = some (.int .i64 a0_0) := (blk_cell BK231.out 0).trans rfl; have hcz8_1 : w7.cell? ⟨gb231, 1, none⟩ = some (.int .u64 a0_1) := (blk_cell BK231.out 1).trans rfl; have hcz8_2 : w7.cell? ⟨gb231, 2, none⟩ = some (.int .u64 a0_2) := (blk_cell BK231.out 2).trans rfl; have hcz8_3 : w7.cell? ⟨gb231, 3, none⟩ = some (.int .u64 a0_3) := (blk_cell BK231.out 3).trans rfl; have hcz8_4 : w7.cell? ⟨gb231, 4, none⟩ = some (.string a0_4) := (blk_cell BK231.out 4).trans rfl; have hcz8_5 : w7.cell? ⟨gb231, 5, none⟩ = some (.string a0_5) := (blk_cell BK231.out 5).trans rfl; have hcz8_6 : w7.cell? ⟨gb231, 6, none⟩ = some (.int .u64 a0_6) := (blk_cell BK231.out 6).trans rfl; have hcz8_7 : w7.cell? ⟨gb231, 7, none⟩ = some (.int .u64 a0_7) := (blk_cell BK231.out 7).trans rfl; have hcz8_8 : w7.cell? ⟨gb231, 8, none⟩ = some (.string a0_8) := (blk_cell BK231.out 8).trans rfl; have hcz8_9 : w7.cell? ⟨gb231, 9, none⟩ = some (.int .u64 a0_9) := (blk_cell BK231.out 9).trans rfl; have hcz8_10 : w7.cell? ⟨gb231, 10, none⟩ = some (.int .u64 a0_10) := (blk_cell BK231.out 10).trans rfl; have hcz8_11 : w7.cell? ⟨gb231, 11, none⟩ = some (.string a0_11) := (blk_cell BK231.out 11).trans rfl; have hcz8_12 : w7.cell? ⟨gb231, 12, none⟩ = some (.slice A0_12 l0_12.length c0_12) := (blk_cell BK231.out 12).trans rfl; have hfz8_0 := blk_frozen BK231.out 0; have hfz8_1 := blk_frozen BK231.out 1; have hfz8_2 := blk_frozen BK231.out 2; have hfz8_3 := blk_frozen BK231.out 3; have hfz8_4 := blk_frozen BK231.out 4; have hfz8_5 := blk_frozen BK231.out 5; have hfz8_6 := blk_frozen BK231.out 6; have hfz8_7 := blk_frozen BK231.out 7; have hfz8_8 := blk_frozen BK231.out 8; have hfz8_9 := blk_frozen BK231.out 9; have hfz8_10 := blk_frozen BK231.out 10; have hfz8_11 := blk_frozen BK231.out 11; have hfz8_12 := blk_frozen BK231.out 12))
            go_ret
            exact ⟨by first | rfl | (simp [errW_none, errW_some] <;> rfl) | (simp [*, errW_none, errW_some] <;> rfl), by repeat (first | (with_reducible first | exact HB.out | apply below_alloc | apply pw_below_drewN | apply below_drew1 | refine below_set ?_ GE231.out) | exact HB.out)⟩
          · rw [if_neg c6] at H
            have c6b0 : decide ((a0_11.size : Int) ≤ 1024) = false := decide_eq_false c6
            have c6b1 : decide (a0_11.size ≤ 1024) = false := decide_eq_false (by omega)
            clear c6
            obtain rfl := Option.some.inj H
            go_enter Try.func9, Try.ntmps9
            go_wp2_with (first | ((with_reducible refine gate_dst (N := 1) rfl ?_); (try (refine gate_guard (by rfl) ?_; dsimp only)); refine box_event ?hg (N := 1) ?hd (cs := #[.int .i64 a0_0, .int .u64 a0_1, .int .u64 a0_2, .int .u64 a0_3, .string a0_4, .string a0_5, .int .u64 a0_6, .int .u64 a0_7, .string a0_8, .int .u64 a0_9, .int .u64 a0_10, .string a0_11, .slice A0_12 l0_12.length c0_12]) (t := 25) ?hr ?_; (case hd => rfl); (case hg => rfl); (case hr => first | (go_simp; done) | (go_simp; rfl)); intro gb231 hg w9 hbox hb; have n0_ := Aside0.mk (below_step (by repeat (first | (with_reducible first | exact HB.out | apply below_alloc | apply pw_below_drewN | apply below_drew1) | exact HB.out)) hb); have n1_ := Aside0.mk (hbox); have n2_ := Aside0.mk ((by rw [hg]; exact (below_size (by repeat (first | (with_reducible first | exact HB.out | apply below_alloc | apply pw_below_drewN | apply below_drew1) | exact HB.out))) : w.heap.size ≤ gb231)); have n3_ := Aside0.mk ((by rw [hg]; exact (below_size (by repeat (first | (with_reducible first | exact HB.out | apply below_alloc | apply pw_below_drewN | apply below_drew1) | exact HB.out))) : w.heap.size ≤ gb231)); clear HB; have HB := n0_; have BK231 := n1_; have GW231 := n2_; have GE231 := n3_; clear n0_ n1_ n2_ n3_; clear hb hbox hg; have hcz10_0 : w9.cell? ⟨gb231, 0, none⟩ = some (.int .i64 a0_0) := (blk_cell BK231.out 0).trans rfl; have hcz10_1 : w9.cell? ⟨gb231, 1, none⟩ = some (.int .u64 a0_1) := (blk_cell BK231.out 1).trans rfl; have hcz10_2 : w9.cell? ⟨gb231, 2, none⟩ = some (.int .u64 a0_2) := (blk_cell BK231.out 2).trans rfl; have hcz10_3 : w9.cell? ⟨gb231, 3, none⟩ = some (.int .u64 a0_3) := (blk_cell BK231.out 3).trans rfl; have hcz10_4 : w9.cell? ⟨gb231, 4, none⟩ = some (.string a0_4) := (blk_cell BK231.out 4).trans rfl; have hcz10_5 : w9.cell? ⟨gb231, 5, none⟩ = some (.string a0_5) := (blk_cell BK231.out 5).trans rfl; have hcz10_6 : w9.cell? ⟨gb231, 6, none⟩ = some (.int .u64 a0_6) := (blk_cell BK231.out 6).trans rfl; have hcz10_7 : w9.cell? ⟨gb231, 7, none⟩ = some (.int .u64 a0_7) := (blk_cell BK231.out 7).trans rfl; have hcz10_8 : w9.cell? ⟨gb231, 8, none⟩ = some (.string a0_8) := (blk_cell BK231.out 8).trans rfl; have hcz10_9 : w9.cell? ⟨gb231, 9, none⟩ = some (.int .u64 a0_9) := (blk_cell BK231.out 9).trans rfl; have hcz10_10 : w9.cell? ⟨gb231, 10, none⟩ = some (.int .u64 a0_10) := (blk_cell BK231.out 10).trans rfl; have hcz10_11 : w9.cell? ⟨gb231, 11, none⟩ = some (.string a0_11) := (blk_cell BK231.out 11).trans rfl; have hcz10_12 : w9.cell? ⟨gb231, 12, none⟩ = some (.slice A0_12 l0_12.length c0_12) := (blk_cell BK231.out 12).trans rfl; have hfz10_0 := blk_frozen BK231.out 0; have hfz10_1 := blk_frozen BK231.out 1; have hfz10_2 := blk_frozen BK231.out 2; have hfz10_3 := blk_frozen BK231.out 3; have hfz10_4 := blk_frozen BK231.out 4; have hfz10_5 := blk_frozen BK231.out 5; have hfz10_6 := blk_frozen BK231.out 6; have hfz10_7 := blk_frozen BK231.out 7; have hfz10_8 := blk_frozen BK231.out 8; have hfz10_9 := blk_frozen BK231.out 9; have hfz10_10 := blk_frozen BK231.out 10; have hfz10_11 := blk_frozen BK231.out 11; have hfz10_12 := blk_frozen BK231.out 12))
            go_ret
            exact ⟨by first | rfl | (simp [errW_none, errW_some] <;> rfl) | (simp [*, errW_none, errW_some] <;> rfl), by repeat (first | (with_reducible first | exact HB.out | apply below_alloc | apply pw_below_drewN | apply below_drew1 | refine below_set ?_ GE231.out) | exact HB.out)⟩
        · rw [if_neg c5] at H
          have c5b0 : ((a0_8.size : Int) == 32) = false := beq_eq_false_iff_ne.mpr c5
          have c5b1 : ((a0_8.size : Int) != 32) = true := bne_iff_ne.mpr c5
          obtain rfl := Option.some.inj H
          go_enter Try.func9, Try.ntmps9
          go_wp2_with (first | ((with_reducible refine gate_dst (N := 1) rfl ?_); (try (refine gate_guard (by rfl) ?_; dsimp only)); refine box_event ?hg (N := 1) ?hd (cs := #[.int .i64 a0_0, .int .u64 a0_1, .int .u64 a0_2, .int .u64 a0_3, .string a0_4, .string a0_5, .int .u64 a0_6, .int .u64 a0_7, .string a0_8, .int .u64 a0_9, .int .u64 a0_10, .string a0_11, .slice A0_12 l0_12.length c0_12]) (t := 25) ?hr ?_; (case hd => rfl); (case hg => rfl); (case hr => first | (go_simp; done) | (go_simp; rfl)); intro gb231 hg w11 hbox hb; have n0_ := Aside0.mk (below_step (by repeat (first | (with_reducible first | exact HB.out | apply below_alloc | apply pw_below_drewN | apply below_drew1) | exact HB.out)) hb); have n1_ := Aside0.mk (hbox); have n2_ := Aside0.mk ((by rw [hg]; exact (below_size (by repeat (first | (with_reducible first | exact HB.out | apply below_alloc | apply pw_below_drewN | apply below_drew1) | exact HB.out))) : w.heap.size ≤ gb231)); have n3_ := Aside0.mk ((by rw [hg]; exact (below_size (by repeat (first | (with_reducible first | exact HB.out | apply below_alloc | apply pw_below_drewN | apply below_drew1) | exact HB.out))) : w.heap.size ≤ gb231)); clear HB; have HB := n0_; have BK231 := n1_; have GW231 := n2_; have GE231 := n3_; clear n0_ n1_ n2_ n3_; clear hb hbox hg; have hcz12_0 : w11.cell? ⟨gb231, 0, none⟩ = some (.int .i64 a0_0) := (blk_cell BK231.out 0).trans rfl; have hcz12_1 : w11.cell? ⟨gb231, 1, none⟩ = some (.int .u64 a0_1) := (blk_cell BK231.out 1).trans rfl; have hcz12_2 : w11.cell? ⟨gb231, 2, none⟩ = some (.int .u64 a0_2) := (blk_cell BK231.out 2).trans rfl; have hcz12_3 : w11.cell? ⟨gb231, 3, none⟩ = some (.int .u64 a0_3) := (blk_cell BK231.out 3).trans rfl; have hcz12_4 : w11.cell? ⟨gb231, 4, none⟩ = some (.string a0_4) := (blk_cell BK231.out 4).trans rfl; have hcz12_5 : w11.cell? ⟨gb231, 5, none⟩ = some (.string a0_5) := (blk_cell BK231.out 5).trans rfl; have hcz12_6 : w11.cell? ⟨gb231, 6, none⟩ = some (.int .u64 a0_6) := (blk_cell BK231.out 6).trans rfl; have hcz12_7 : w11.cell? ⟨gb231, 7, none⟩ = some (.int .u64 a0_7) := (blk_cell BK231.out 7).trans rfl; have hcz12_8 : w11.cell? ⟨gb231, 8, none⟩ = some (.string a0_8) := (blk_cell BK231.out 8).trans rfl; have hcz12_9 : w11.cell? ⟨gb231, 9, none⟩ = some (.int .u64 a0_9) := (blk_cell BK231.out 9).trans rfl; have hcz12_10 : w11.cell? ⟨gb231, 10, none⟩ = some (.int .u64 a0_10) := (blk_cell BK231.out 10).trans rfl; have hcz12_11 : w11.cell? ⟨gb231, 11, none⟩ = some (.string a0_11) := (blk_cell BK231.out 11).trans rfl; have hcz12_12 : w11.cell? ⟨gb231, 12, none⟩ = some (.slice A0_12 l0_12.length c0_12) := (blk_cell BK231.out 12).trans rfl; have hfz12_0 := blk_frozen BK231.out 0; have hfz12_1 := blk_frozen BK231.out 1; have hfz12_2 := blk_frozen BK231.out 2; have hfz12_3 := blk_frozen BK231.out 3; have hfz12_4 := blk_frozen BK231.out 4; have hfz12_5 := blk_frozen BK231.out 5; have hfz12_6 := blk_frozen BK231.out 6; have hfz12_7 := blk_frozen BK231.out 7; have hfz12_8 := blk_frozen BK231.out 8; have hfz12_9 := blk_frozen BK231.out 9; have hfz12_10 := blk_frozen BK231.out 10; have hfz12_11 := blk_frozen BK231.out 11; have hfz12_12 := blk_frozen BK231.out 12))
          go_ret
          exact ⟨by first | rfl | (simp [errW_none, errW_some] <;> rfl) | (simp [*, errW_none, errW_some] <;> rfl), by repeat (first | (with_reducible first | exact HB.out | apply below_alloc | apply pw_below_drewN | apply below_drew1 | refine below_set ?_ GE231.out) | exact HB.out)⟩
      · rw [if_neg c4] at H
        have c4b0 : ((a0_5.size : Int) == 32) = false := beq_eq_false_iff_ne.mpr c4
        have c4b1 : ((a0_5.size : Int) != 32) = true := bne_iff_ne.mpr c4
        obtain rfl := Option.some.inj H
        go_enter Try.func9, Try.ntmps9
        go_wp2_with (first | ((with_reducible refine gate_dst (N := 1) rfl ?_); (try (refine gate_guard (by rfl) ?_; dsimp only)); refine box_event ?hg (N := 1) ?hd (cs := #[.int .i64 a0_0, .int .u64 a0_1, .int .u64 a0_2, .int .u64 a0_3, .string a0_4, .string a0_5, .int .u64 a0_6, .int .u64 a0_7, .string a0_8, .int .u64 a0_9, .int .u64 a0_10, .string a0_11, .slice A0_12 l0_12.length c0_12]) (t := 25) ?hr ?_; (case hd => rfl); (case hg => rfl); (case hr => first | (go_simp; done) | (go_simp; rfl)); intro gb231 hg w13 hbox hb; have n0_ := Aside0.mk (below_step (by repeat (first | (with_reducible first | exact HB.out | apply below_alloc | apply pw_below_drewN | apply below_drew1) | exact HB.out)) hb); have n1_ := Aside0.mk (hbox); have n2_ := Aside0.mk ((by rw [hg]; exact (below_size (by repeat (first | (with_reducible first | exact HB.out | apply below_alloc | apply pw_below_drewN | apply below_drew1) | exact HB.out))) : w.heap.size ≤ gb231)); have n3_ := Aside0.mk ((by rw [hg]; exact (below_size (by repeat (first | (with_reducible first | exact HB.out | apply below_alloc | apply pw_below_drewN | apply below_drew1) | exact HB.out))) : w.heap.size ≤ gb231)); clear HB; have HB := n0_; have BK231 := n1_; have GW231 := n2_; have GE231 := n3_; clear n0_ n1_ n2_ n3_; clear hb hbox hg; have hcz14_0 : w13.cell? ⟨gb231, 0, none⟩ = some (.int .i64 a0_0) := (blk_cell BK231.out 0).trans rfl; have hcz14_1 : w13.cell? ⟨gb231, 1, none⟩ = some (.int .u64 a0_1) := (blk_cell BK231.out 1).trans rfl; have hcz14_2 : w13.cell? ⟨gb231, 2, none⟩ = some (.int .u64 a0_2) := (blk_cell BK231.out 2).trans rfl; have hcz14_3 : w13.cell? ⟨gb231, 3, none⟩ = some (.int .u64 a0_3) := (blk_cell BK231.out 3).trans rfl; have hcz14_4 : w13.cell? ⟨gb231, 4, none⟩ = some (.string a0_4) := (blk_cell BK231.out 4).trans rfl; have hcz14_5 : w13.cell? ⟨gb231, 5, none⟩ = some (.string a0_5) := (blk_cell BK231.out 5).trans rfl; have hcz14_6 : w13.cell? ⟨gb231, 6, none⟩ = some (.int .u64 a0_6) := (blk_cell BK231.out 6).trans rfl; have hcz14_7 : w13.cell? ⟨gb231, 7, none⟩ = some (.int .u64 a0_7) := (blk_cell BK231.out 7).trans rfl; have hcz14_8 : w13.cell? ⟨gb231, 8, none⟩ = some (.string a0_8) := (blk_cell BK231.out 8).trans rfl; have hcz14_9 : w13.cell? ⟨gb231, 9, none⟩ = some (.int .u64 a0_9) := (blk_cell BK231.out 9).trans rfl; have hcz14_10 : w13.cell? ⟨gb231, 10, none⟩ = some (.int .u64 a0_10) := (blk_cell BK231.out 10).trans rfl; have hcz14_11 : w13.cell? ⟨gb231, 11, none⟩ = some (.string a0_11) := (blk_cell BK231.out 11).trans rfl; have hcz14_12 : w13.cell? ⟨gb231, 12, none⟩ = some (.slice A0_12 l0_12.length c0_12) := (blk_cell BK231.out 12).trans rfl; have hfz14_0 := blk_frozen BK231.out 0; have hfz14_1 := blk_frozen BK231.out 1; have hfz14_2 := blk_frozen BK231.out 2; have hfz14_3 := blk_frozen BK231.out 3; have hfz14_4 := blk_frozen BK231.out 4; have hfz14_5 := blk_frozen BK231.out 5; have hfz14_6 := blk_frozen BK231.out 6; have hfz14_7 := blk_frozen BK231.out 7; have hfz14_8 := blk_frozen BK231.out 8; have hfz14_9 := blk_frozen BK231.out 9; have hfz14_10 := blk_frozen BK231.out 10; have hfz14_11 := blk_frozen BK231.out 11; have hfz14_12 := blk_frozen BK231.out 12))
        go_ret
        exact ⟨by first | rfl | (simp [errW_none, errW_some] <;> rfl) | (simp [*, errW_none, errW_some] <;> rfl), by repeat (first | (with_reducible first | exact HB.out | apply below_alloc | apply pw_below_drewN | apply below_drew1 | refine below_set ?_ GE231.out) | exact HB.out)⟩
    · rw [if_neg c3] at H
      have c3b0 : ((a0_4.size : Int) == 32) = false := beq_eq_false_iff_ne.mpr c3
      have c3b1 : ((a0_4.size : Int) != 32) = true := bne_iff_ne.mpr c3
      obtain rfl := Option.some.inj H
      go_enter Try.func9, Try.ntmps9
      go_wp2_with (first | ((with_reducible refine gate_dst (N := 1) rfl ?_); (try (refine gate_guard (by rfl) ?_; dsimp only)); refine box_event ?hg (N := 1) ?hd (cs := #[.int .i64 a0_0, .int .u64 a0_1, .int .u64 a0_2, .int .u64 a0_3, .string a0_4, .string a0_5, .int .u64 a0_6, .int .u64 a0_7, .string a0_8, .int .u64 a0_9, .int .u64 a0_10, .string a0_11, .slice A0_12 l0_12.length c0_12]) (t := 25) ?hr ?_; (case hd => rfl); (case hg => rfl); (case hr => first | (go_simp; done) | (go_simp; rfl)); intro gb231 hg w15 hbox hb; have n0_ := Aside0.mk (below_step (by repeat (first | (with_reducible first | exact HB.out | apply below_alloc | apply pw_below_drewN | apply below_drew1) | exact HB.out)) hb); have n1_ := Aside0.mk (hbox); have n2_ := Aside0.mk ((by rw [hg]; exact (below_size (by repeat (first | (with_reducible first | exact HB.out | apply below_alloc | apply pw_below_drewN | apply below_drew1) | exact HB.out))) : w.heap.size ≤ gb231)); have n3_ := Aside0.mk ((by rw [hg]; exact (below_size (by repeat (first | (with_reducible first | exact HB.out | apply below_alloc | apply pw_below_drewN | apply below_drew1) | exact HB.out))) : w.heap.size ≤ gb231)); clear HB; have HB := n0_; have BK231 := n1_; have GW231 := n2_; have GE231 := n3_; clear n0_ n1_ n2_ n3_; clear hb hbox hg; have hcz16_0 : w15.cell? ⟨gb231, 0, none⟩ = some (.int .i64 a0_0) := (blk_cell BK231.out 0).trans rfl; have hcz16_1 : w15.cell? ⟨gb231, 1, none⟩ = some (.int .u64 a0_1) := (blk_cell BK231.out 1).trans rfl; have hcz16_2 : w15.cell? ⟨gb231, 2, none⟩ = some (.int .u64 a0_2) := (blk_cell BK231.out 2).trans rfl; have hcz16_3 : w15.cell? ⟨gb231, 3, none⟩ = some (.int .u64 a0_3) := (blk_cell BK231.out 3).trans rfl; have hcz16_4 : w15.cell? ⟨gb231, 4, none⟩ = some (.string a0_4) := (blk_cell BK231.out 4).trans rfl; have hcz16_5 : w15.cell? ⟨gb231, 5, none⟩ = some (.string a0_5) := (blk_cell BK231.out 5).trans rfl; have hcz16_6 : w15.cell? ⟨gb231, 6, none⟩ = some (.int .u64 a0_6) := (blk_cell BK231.out 6).trans rfl; have hcz16_7 : w15.cell? ⟨gb231, 7, none⟩ = some (.int .u64 a0_7) := (blk_cell BK231.out 7).trans rfl; have hcz16_8 : w15.cell? ⟨gb231, 8, none⟩ = some (.string a0_8) := (blk_cell BK231.out 8).trans rfl; have hcz16_9 : w15.cell? ⟨gb231, 9, none⟩ = some (.int .u64 a0_9) := (blk_cell BK231.out 9).trans rfl; have hcz16_10 : w15.cell? ⟨gb231, 10, none⟩ = some (.int .u64 a0_10) := (blk_cell BK231.out 10).trans rfl; have hcz16_11 : w15.cell? ⟨gb231, 11, none⟩ = some (.string a0_11) := (blk_cell BK231.out 11).trans rfl; have hcz16_12 : w15.cell? ⟨gb231, 12, none⟩ = some (.slice A0_12 l0_12.length c0_12) := (blk_cell BK231.out 12).trans rfl; have hfz16_0 := blk_frozen BK231.out 0; have hfz16_1 := blk_frozen BK231.out 1; have hfz16_2 := blk_frozen BK231.out 2; have hfz16_3 := blk_frozen BK231.out 3; have hfz16_4 := blk_frozen BK231.out 4; have hfz16_5 := blk_frozen BK231.out 5; have hfz16_6 := blk_frozen BK231.out 6; have hfz16_7 := blk_frozen BK231.out 7; have hfz16_8 := blk_frozen BK231.out 8; have hfz16_9 := blk_frozen BK231.out 9; have hfz16_10 := blk_frozen BK231.out 10; have hfz16_11 := blk_frozen BK231.out 11; have hfz16_12 := blk_frozen BK231.out 12))
      go_ret
      exact ⟨by first | rfl | (simp [errW_none, errW_some] <;> rfl) | (simp [*, errW_none, errW_some] <;> rfl), by repeat (first | (with_reducible first | exact HB.out | apply below_alloc | apply pw_below_drewN | apply below_drew1 | refine below_set ?_ GE231.out) | exact HB.out)⟩
  · rw [if_neg c2] at H
    have c2b0 : (a0_0 == 0) = false := beq_eq_false_iff_ne.mpr c2
    have c2b1 : (a0_0 != 0) = true := bne_iff_ne.mpr c2
    have HC17 := Aside0.mk H
    clear H
    go_enter Try.func9, Try.ntmps9
    go_upto_region 3 with (first | ((with_reducible refine gate_dst (N := 1) rfl ?_); (try (refine gate_guard (by rfl) ?_; dsimp only)); refine box_event ?hg (N := 1) ?hd (cs := #[.int .i64 a0_0, .int .u64 a0_1, .int .u64 a0_2, .int .u64 a0_3, .string a0_4, .string a0_5, .int .u64 a0_6, .int .u64 a0_7, .string a0_8, .int .u64 a0_9, .int .u64 a0_10, .string a0_11, .slice A0_12 l0_12.length c0_12]) (t := 25) ?hr ?_; (case hd => rfl); (case hg => rfl); (case hr => first | (go_simp; done) | (go_simp; rfl)); intro gb231 hg w18 hbox hb; have n0_ := Aside0.mk (below_step (by repeat (first | (with_reducible first | exact HB.out | apply below_alloc | apply pw_below_drewN | apply below_drew1) | exact HB.out)) hb); have n1_ := Aside0.mk (hbox); have n2_ := Aside0.mk ((by rw [hg]; exact (below_size (by repeat (first | (with_reducible first | exact HB.out | apply below_alloc | apply pw_below_drewN | apply below_drew1) | exact HB.out))) : w.heap.size ≤ gb231)); have n3_ := Aside0.mk ((by rw [hg]; exact (below_size (by repeat (first | (with_reducible first | exact HB.out | apply below_alloc | apply pw_below_drewN | apply below_drew1) | exact HB.out))) : w.heap.size ≤ gb231)); clear HB; have HB := n0_; have BK231 := n1_; have GW231 := n2_; have GE231 := n3_; clear n0_ n1_ n2_ n3_; clear hb hbox hg; have hcz19_0 : w18.cell? ⟨gb231, 0, none⟩ = some (.int .i64 a0_0) := (blk_cell BK231.out 0).trans rfl; have hcz19_1 : w18.cell? ⟨gb231, 1, none⟩ = some (.int .u64 a0_1) := (blk_cell BK231.out 1).trans rfl; have hcz19_2 : w18.cell? ⟨gb231, 2, none⟩ = some (.int .u64 a0_2) := (blk_cell BK231.out 2).trans rfl; have hcz19_3 : w18.cell? ⟨gb231, 3, none⟩ = some (.int .u64 a0_3) := (blk_cell BK231.out 3).trans rfl; have hcz19_4 : w18.cell? ⟨gb231, 4, none⟩ = some (.string a0_4) := (blk_cell BK231.out 4).trans rfl; have hcz19_5 : w18.cell? ⟨gb231, 5, none⟩ = some (.string a0_5) := (blk_cell BK231.out 5).trans rfl; have hcz19_6 : w18.cell? ⟨gb231, 6, none⟩ = some (.int .u64 a0_6) := (blk_cell BK231.out 6).trans rfl; have hcz19_7 : w18.cell? ⟨gb231, 7, none⟩ = some (.int .u64 a0_7) := (blk_cell BK231.out 7).trans rfl; have hcz19_8 : w18.cell? ⟨gb231, 8, none⟩ = some (.string a0_8) := (blk_cell BK231.out 8).trans rfl; have hcz19_9 : w18.cell? ⟨gb231, 9, none⟩ = some (.int .u64 a0_9) := (blk_cell BK231.out 9).trans rfl; have hcz19_10 : w18.cell? ⟨gb231, 10, none⟩ = some (.int .u64 a0_10) := (blk_cell BK231.out 10).trans rfl; have hcz19_11 : w18.cell? ⟨gb231, 11, none⟩ = some (.string a0_11) := (blk_cell BK231.out 11).trans rfl; have hcz19_12 : w18.cell? ⟨gb231, 12, none⟩ = some (.slice A0_12 l0_12.length c0_12) := (blk_cell BK231.out 12).trans rfl; have hfz19_0 := blk_frozen BK231.out 0; have hfz19_1 := blk_frozen BK231.out 1; have hfz19_2 := blk_frozen BK231.out 2; have hfz19_3 := blk_frozen BK231.out 3; have hfz19_4 := blk_frozen BK231.out 4; have hfz19_5 := blk_frozen BK231.out 5; have hfz19_6 := blk_frozen BK231.out 6; have hfz19_7 := blk_frozen BK231.out 7; have hfz19_8 := blk_frozen BK231.out 8; have hfz19_9 := blk_frozen BK231.out 9; have hfz19_10 := blk_frozen BK231.out 10; have hfz19_11 := blk_frozen BK231.out 11; have hfz19_12 := blk_frozen BK231.out 12))
    (try simp only [Act.put, List.setIfInBounds_toArray, List.set_cons_zero, List.set_cons_succ])
    go_cut [51] (fun v51 wc => ∃ (kq : Nat) (x51_16 : Bool), v51 = .bool x51_16 ∧ Aside0 (demurralref08_Right.j0 kq x51_16 a0_0 a0_1 a0_2 a0_3 a0_4 a0_5 a0_6 a0_7 a0_8 a0_9 a0_10 a0_11 l0_12 = some r) ∧ Aside0 (kq ≤ k) ∧ Aside0 (wc.heap[gb231]? = some (.cells #[.int .i64 a0_0, .int .u64 a0_1, .int .u64 a0_2, .int .u64 a0_3, .string a0_4, .string a0_5, .int .u64 a0_6, .int .u64 a0_7, .string a0_8, .int .u64 a0_9, .int .u64 a0_10, .string a0_11, (.slice A0_12 l0_12.length c0_12)] 25 (0, 0))) ∧ Aside0 (Below w.heap.size w wc))
    case first =>
      have H := HC17.out
      clear HC17
      by_cases c20 : a0_4.toList = ([] : List UInt8)
      · rw [if_pos c20] at H
        have c20b0 : (a0_4.toList == ([] : List UInt8)) = true := beq_iff_eq.mpr c20
        have c20b1 : (a0_4.toList != ([] : List UInt8)) = false := bne_eq_false_iff_eq.mpr c20
        clear c20
        (first | rw [c20b0] | (simp only [i64_w, i32_w]; rw [c20b0]) | skip)
        by_cases c21 : a0_5.toList = ([] : List UInt8)
        · rw [if_pos c21] at H
          have c21b0 : (a0_5.toList == ([] : List UInt8)) = true := beq_iff_eq.mpr c21
          have c21b1 : (a0_5.toList != ([] : List UInt8)) = false := bne_eq_false_iff_eq.mpr c21
          clear c21
          by_cases c22 : a0_6 = 0
          · rw [if_pos c22] at H
            have c22b0 : (a0_6 == 0) = true := beq_iff_eq.mpr c22
            have c22b1 : (a0_6 != 0) = false := bne_eq_false_iff_eq.mpr c22
            clear c22
            have H' := Aside0.mk H
            clear H
            have hcz23_0 : w18.cell? ⟨gb231, 0, none⟩ = some (.int .i64 a0_0) := (blk_cell BK231.out 0).trans rfl
            have hcz23_1 : w18.cell? ⟨gb231, 1, none⟩ = some (.int .u64 a0_1) := (blk_cell BK231.out 1).trans rfl
            have hcz23_2 : w18.cell? ⟨gb231, 2, none⟩ = some (.int .u64 a0_2) := (blk_cell BK231.out 2).trans rfl
            have hcz23_3 : w18.cell? ⟨gb231, 3, none⟩ = some (.int .u64 a0_3) := (blk_cell BK231.out 3).trans rfl
            have hcz23_4 : w18.cell? ⟨gb231, 4, none⟩ = some (.string a0_4) := (blk_cell BK231.out 4).trans rfl
            have hcz23_5 : w18.cell? ⟨gb231, 5, none⟩ = some (.string a0_5) := (blk_cell BK231.out 5).trans rfl
            have hcz23_6 : w18.cell? ⟨gb231, 6, none⟩ = some (.int .u64 a0_6) := (blk_cell BK231.out 6).trans rfl
            have hcz23_7 : w18.cell? ⟨gb231, 7, none⟩ = some (.int .u64 a0_7) := (blk_cell BK231.out 7).trans rfl
            have hcz23_8 : w18.cell? ⟨gb231, 8, none⟩ = some (.string a0_8) := (blk_cell BK231.out 8).trans rfl
            have hcz23_9 : w18.cell? ⟨gb231, 9, none⟩ = some (.int .u64 a0_9) := (blk_cell BK231.out 9).trans rfl
            have hcz23_10 : w18.cell? ⟨gb231, 10, none⟩ = some (.int .u64 a0_10) := (blk_cell BK231.out 10).trans rfl
            have hcz23_11 : w18.cell? ⟨gb231, 11, none⟩ = some (.string a0_11) := (blk_cell BK231.out 11).trans rfl
            have hcz23_12 : w18.cell? ⟨gb231, 12, none⟩ = some (.slice A0_12 l0_12.length c0_12) := (blk_cell BK231.out 12).trans rfl
            have hfz23_0 := blk_frozen BK231.out 0
            have hfz23_1 := blk_frozen BK231.out 1
            have hfz23_2 := blk_frozen BK231.out 2
            have hfz23_3 := blk_frozen BK231.out 3
            have hfz23_4 := blk_frozen BK231.out 4
            have hfz23_5 := blk_frozen BK231.out 5
            have hfz23_6 := blk_frozen BK231.out 6
            have hfz23_7 := blk_frozen BK231.out 7
            have hfz23_8 := blk_frozen BK231.out 8
            have hfz23_9 := blk_frozen BK231.out 9
            have hfz23_10 := blk_frozen BK231.out 10
            have hfz23_11 := blk_frozen BK231.out 11
            have hfz23_12 := blk_frozen BK231.out 12
            go_wp2
            go_meet
            case rel => exact ⟨_, ((a0_7 != 0)), (by first | rfl | (simp; done) | (simp [*]; done)), H', ⟨by first | omega | exact Nat.le_refl _⟩, ⟨by (with_reducible repeat (first | refine blk_drewN ?_ _ | refine blk_drew ?_ | refine blk_alloc ?_ _)); exact BK231.out⟩, ⟨by repeat (first | (with_reducible first | exact HB.out | apply below_alloc | apply pw_below_drewN | apply below_drew1 | refine below_set ?_ GE231.out) | exact HB.out)⟩⟩
          · rw [if_neg c22] at H
            have c22b0 : (a0_6 == 0) = false := beq_eq_false_iff_ne.mpr c22
            have c22b1 : (a0_6 != 0) = true := bne_iff_ne.mpr c22
            have H' := Aside0.mk H
            clear H
            have hcz24_0 : w18.cell? ⟨gb231, 0, none⟩ = some (.int .i64 a0_0) := (blk_cell BK231.out 0).trans rfl
            have hcz24_1 : w18.cell? ⟨gb231, 1, none⟩ = some (.int .u64 a0_1) := (blk_cell BK231.out 1).trans rfl
            have hcz24_2 : w18.cell? ⟨gb231, 2, none⟩ = some (.int .u64 a0_2) := (blk_cell BK231.out 2).trans rfl
            have hcz24_3 : w18.cell? ⟨gb231, 3, none⟩ = some (.int .u64 a0_3) := (blk_cell BK231.out 3).trans rfl
            have hcz24_4 : w18.cell? ⟨gb231, 4, none⟩ = some (.string a0_4) := (blk_cell BK231.out 4).trans rfl
            have hcz24_5 : w18.cell? ⟨gb231, 5, none⟩ = some (.string a0_5) := (blk_cell BK231.out 5).trans rfl
            have hcz24_6 : w18.cell? ⟨gb231, 6, none⟩ = some (.int .u64 a0_6) := (blk_cell BK231.out 6).trans rfl
            have hcz24_7 : w18.cell? ⟨gb231, 7, none⟩ = some (.int .u64 a0_7) := (blk_cell BK231.out 7).trans rfl
            have hcz24_8 : w18.cell? ⟨gb231, 8, none⟩ = some (.string a0_8) := (blk_cell BK231.out 8).trans rfl
            have hcz24_9 : w18.cell? ⟨gb231, 9, none⟩ = some (.int .u64 a0_9) := (blk_cell BK231.out 9).trans rfl
            have hcz24_10 : w18.cell? ⟨gb231, 10, none⟩ = some (.int .u64 a0_10) := (blk_cell BK231.out 10).trans rfl
            have hcz24_11 : w18.cell? ⟨gb231, 11, none⟩ = some (.string a0_11) := (blk_cell BK231.out 11).trans rfl
            have hcz24_12 : w18.cell? ⟨gb231, 12, none⟩ = some (.slice A0_12 l0_12.length c0_12) := (blk_cell BK231.out 12).trans rfl
            have hfz24_0 := blk_frozen BK231.out 0
            have hfz24_1 := blk_frozen BK231.out 1
            have hfz24_2 := blk_frozen BK231.out 2
            have hfz24_3 := blk_frozen BK231.out 3
            have hfz24_4 := blk_frozen BK231.out 4
            have hfz24_5 := blk_frozen BK231.out 5
            have hfz24_6 := blk_frozen BK231.out 6
            have hfz24_7 := blk_frozen BK231.out 7
            have hfz24_8 := blk_frozen BK231.out 8
            have hfz24_9 := blk_frozen BK231.out 9
            have hfz24_10 := blk_frozen BK231.out 10
            have hfz24_11 := blk_frozen BK231.out 11
            have hfz24_12 := blk_frozen BK231.out 12
            go_wp2
            go_meet
            case rel => exact ⟨_, (true), (by first | rfl | (simp; done) | (simp [*]; done)), H', ⟨by first | omega | exact Nat.le_refl _⟩, ⟨by (with_reducible repeat (first | refine blk_drewN ?_ _ | refine blk_drew ?_ | refine blk_alloc ?_ _)); exact BK231.out⟩, ⟨by repeat (first | (with_reducible first | exact HB.out | apply below_alloc | apply pw_below_drewN | apply below_drew1 | refine below_set ?_ GE231.out) | exact HB.out)⟩⟩
        · rw [if_neg c21] at H
          have c21b0 : (a0_5.toList == ([] : List UInt8)) = false := beq_eq_false_iff_ne.mpr c21
          have c21b1 : (a0_5.toList != ([] : List UInt8)) = true := bne_iff_ne.mpr c21
          have H' := Aside0.mk H
          clear H
          have hcz25_0 : w18.cell? ⟨gb231, 0, none⟩ = some (.int .i64 a0_0) := (blk_cell BK231.out 0).trans rfl
          have hcz25_1 : w18.cell? ⟨gb231, 1, none⟩ = some (.int .u64 a0_1) := (blk_cell BK231.out 1).trans rfl
          have hcz25_2 : w18.cell? ⟨gb231, 2, none⟩ = some (.int .u64 a0_2) := (blk_cell BK231.out 2).trans rfl
          have hcz25_3 : w18.cell? ⟨gb231, 3, none⟩ = some (.int .u64 a0_3) := (blk_cell BK231.out 3).trans rfl
          have hcz25_4 : w18.cell? ⟨gb231, 4, none⟩ = some (.string a0_4) := (blk_cell BK231.out 4).trans rfl
          have hcz25_5 : w18.cell? ⟨gb231, 5, none⟩ = some (.string a0_5) := (blk_cell BK231.out 5).trans rfl
          have hcz25_6 : w18.cell? ⟨gb231, 6, none⟩ = some (.int .u64 a0_6) := (blk_cell BK231.out 6).trans rfl
          have hcz25_7 : w18.cell? ⟨gb231, 7, none⟩ = some (.int .u64 a0_7) := (blk_cell BK231.out 7).trans rfl
          have hcz25_8 : w18.cell? ⟨gb231, 8, none⟩ = some (.string a0_8) := (blk_cell BK231.out 8).trans rfl
          have hcz25_9 : w18.cell? ⟨gb231, 9, none⟩ = some (.int .u64 a0_9) := (blk_cell BK231.out 9).trans rfl
          have hcz25_10 : w18.cell? ⟨gb231, 10, none⟩ = some (.int .u64 a0_10) := (blk_cell BK231.out 10).trans rfl
          have hcz25_11 : w18.cell? ⟨gb231, 11, none⟩ = some (.string a0_11) := (blk_cell BK231.out 11).trans rfl
          have hcz25_12 : w18.cell? ⟨gb231, 12, none⟩ = some (.slice A0_12 l0_12.length c0_12) := (blk_cell BK231.out 12).trans rfl
          have hfz25_0 := blk_frozen BK231.out 0
          have hfz25_1 := blk_frozen BK231.out 1
          have hfz25_2 := blk_frozen BK231.out 2
          have hfz25_3 := blk_frozen BK231.out 3
          have hfz25_4 := blk_frozen BK231.out 4
          have hfz25_5 := blk_frozen BK231.out 5
          have hfz25_6 := blk_frozen BK231.out 6
          have hfz25_7 := blk_frozen BK231.out 7
          have hfz25_8 := blk_frozen BK231.out 8
          have hfz25_9 := blk_frozen BK231.out 9
          have hfz25_10 := blk_frozen BK231.out 10
          have hfz25_11 := blk_frozen BK231.out 11
          have hfz25_12 := blk_frozen BK231.out 12
          go_wp2
          go_meet
          case rel => exact ⟨_, (true), (by first | rfl | (simp; done) | (simp [*]; done)), H', ⟨by first | omega | exact Nat.le_refl _⟩, ⟨by (with_reducible repeat (first | refine blk_drewN ?_ _ | refine blk_drew ?_ | refine blk_alloc ?_ _)); exact BK231.out⟩, ⟨by repeat (first | (with_reducible first | exact HB.out | apply below_alloc | apply pw_below_drewN | apply below_drew1 | refine below_set ?_ GE231.out) | exact HB.out)⟩⟩
      · rw [if_neg c20] at H
        have c20b0 : (a0_4.toList == ([] : List UInt8)) = false := beq_eq_false_iff_ne.mpr c20
        have c20b1 : (a0_4.toList != ([] : List UInt8)) = true := bne_iff_ne.mpr c20
        (first | rw [c20b0] | (simp only [i64_w, i32_w]; rw [c20b0]) | skip)
        have H' := Aside0.mk H
        clear H
        have hcz26_0 : w18.cell? ⟨gb231, 0, none⟩ = some (.int .i64 a0_0) := (blk_cell BK231.out 0).trans rfl
        have hcz26_1 : w18.cell? ⟨gb231, 1, none⟩ = some (.int .u64 a0_1) := (blk_cell BK231.out 1).trans rfl
        have hcz26_2 : w18.cell? ⟨gb231, 2, none⟩ = some (.int .u64 a0_2) := (blk_cell BK231.out 2).trans rfl
        have hcz26_3 : w18.cell? ⟨gb231, 3, none⟩ = some (.int .u64 a0_3) := (blk_cell BK231.out 3).trans rfl
        have hcz26_4 : w18.cell? ⟨gb231, 4, none⟩ = some (.string a0_4) := (blk_cell BK231.out 4).trans rfl
        have hcz26_5 : w18.cell? ⟨gb231, 5, none⟩ = some (.string a0_5) := (blk_cell BK231.out 5).trans rfl
        have hcz26_6 : w18.cell? ⟨gb231, 6, none⟩ = some (.int .u64 a0_6) := (blk_cell BK231.out 6).trans rfl
        have hcz26_7 : w18.cell? ⟨gb231, 7, none⟩ = some (.int .u64 a0_7) := (blk_cell BK231.out 7).trans rfl
        have hcz26_8 : w18.cell? ⟨gb231, 8, none⟩ = some (.string a0_8) := (blk_cell BK231.out 8).trans rfl
        have hcz26_9 : w18.cell? ⟨gb231, 9, none⟩ = some (.int .u64 a0_9) := (blk_cell BK231.out 9).trans rfl
        have hcz26_10 : w18.cell? ⟨gb231, 10, none⟩ = some (.int .u64 a0_10) := (blk_cell BK231.out 10).trans rfl
        have hcz26_11 : w18.cell? ⟨gb231, 11, none⟩ = some (.string a0_11) := (blk_cell BK231.out 11).trans rfl
        have hcz26_12 : w18.cell? ⟨gb231, 12, none⟩ = some (.slice A0_12 l0_12.length c0_12) := (blk_cell BK231.out 12).trans rfl
        have hfz26_0 := blk_frozen BK231.out 0
        have hfz26_1 := blk_frozen BK231.out 1
        have hfz26_2 := blk_frozen BK231.out 2
        have hfz26_3 := blk_frozen BK231.out 3
        have hfz26_4 := blk_frozen BK231.out 4
        have hfz26_5 := blk_frozen BK231.out 5
        have hfz26_6 := blk_frozen BK231.out 6
        have hfz26_7 := blk_frozen BK231.out 7
        have hfz26_8 := blk_frozen BK231.out 8
        have hfz26_9 := blk_frozen BK231.out 9
        have hfz26_10 := blk_frozen BK231.out 10
        have hfz26_11 := blk_frozen BK231.out 11
        have hfz26_12 := blk_frozen BK231.out 12
        go_wp2
        go_meet
        case rel => exact ⟨_, (true), (by first | rfl | (simp; done) | (simp [*]; done)), H', ⟨by first | omega | exact Nat.le_refl _⟩, ⟨by (with_reducible repeat (first | refine blk_drewN ?_ _ | refine blk_drew ?_ | refine blk_alloc ?_ _)); exact BK231.out⟩, ⟨by repeat (first | (with_reducible first | exact HB.out | apply below_alloc | apply pw_below_drewN | apply below_drew1 | refine below_set ?_ GE231.out) | exact HB.out)⟩⟩
    case rest =>
      clear HC17
      try clear c2
      try clear c2b0
      try clear c2b1
      try clear p2
      try clear c3
      try clear c3b0
      try clear c3b1
      try clear c4
      try clear c4b0
      try clear c4b1
      try clear c5
      try clear c5b0
      try clear c5b1
      try clear c6
      try clear c6b0
      try clear c6b1
      try clear c9
      try clear c20
      try clear c20b0
      try clear c20b1
      try clear c21
      try clear c21b0
      try clear c21b1
      try clear c22
      try clear c22b0
      try clear c22b1
      try clear hcz10_0
      try clear hcz10_1
      try clear hcz10_10
      try clear hcz10_11
      try clear hcz10_12
      try clear hcz10_2
      try clear hcz10_3
      try clear hcz10_4
      try clear hcz10_5
      try clear hcz10_6
      try clear hcz10_7
      try clear hcz10_8
      try clear hcz10_9
      try clear hcz12_0
      try clear hcz12_1
      try clear hcz12_10
      try clear hcz12_11
      try clear hcz12_12
      try clear hcz12_2
      try clear hcz12_3
      try clear hcz12_4
      try clear hcz12_5
      try clear hcz12_6
      try clear hcz12_7
      try clear hcz12_8
      try clear hcz12_9
      try clear hcz14_0
      try clear hcz14_1
      try clear hcz14_10
      try clear hcz14_11
      try clear hcz14_12
      try clear hcz14_2
      try clear hcz14_3
      try clear hcz14_4
      try clear hcz14_5
      try clear hcz14_6
      try clear hcz14_7
      try clear hcz14_8
      try clear hcz14_9
      try clear hcz16_0
      try clear hcz16_1
      try clear hcz16_10
      try clear hcz16_11
      try clear hcz16_12
      try clear hcz16_2
      try clear hcz16_3
      try clear hcz16_4
      try clear hcz16_5
      try clear hcz16_6
      try clear hcz16_7
      try clear hcz16_8
      try clear hcz16_9
      try clear hcz19_0
      try clear hcz19_1
      try clear hcz19_10
      try clear hcz19_11
      try clear hcz19_12
      try clear hcz19_2
      try clear hcz19_3
      try clear hcz19_4
      try clear hcz19_5
      try clear hcz19_6
      try clear hcz19_7
      try clear hcz19_8
      try clear hcz19_9
      try clear hcz23_0
      try clear hcz23_1
      try clear hcz23_10
      try clear hcz23_11
      try clear hcz23_12
      try clear hcz23_2
      try clear hcz23_3
      try clear hcz23_4
      try clear hcz23_5
      try clear hcz23_6
      try clear hcz23_7
      try clear hcz23_8
      try clear hcz23_9
      try clear hcz24_0
      try clear hcz24_1
      try clear hcz24_10
      try clear hcz24_11
      try clear hcz24_12
      try clear hcz24_2
      try clear hcz24_3
      try clear hcz24_4
      try clear hcz24_5
      try clear hcz24_6
      try clear hcz24_7
      try clear hcz24_8
      try clear hcz24_9
      try clear hcz25_0
      try clear hcz25_1
      try clear hcz25_10
      try clear hcz25_11
      try clear hcz25_12
      try clear hcz25_2
      try clear hcz25_3
      try clear hcz25_4
      try clear hcz25_5
      try clear hcz25_6
      try clear hcz25_7
      try clear hcz25_8
      try clear hcz25_9
      try clear hcz26_0
      try clear hcz26_1
      try clear hcz26_10
      try clear hcz26_11
      try clear hcz26_12
      try clear hcz26_2
      try clear hcz26_3
      try clear hcz26_4
      try clear hcz26_5
      try clear hcz26_6
      try clear hcz26_7
      try clear hcz26_8
      try clear hcz26_9
      try clear hcz8_0
      try clear hcz8_1
      try clear hcz8_10
      try clear hcz8_11
      try clear hcz8_12
      try clear hcz8_2
      try clear hcz8_3
      try clear hcz8_4
      try clear hcz8_5
      try clear hcz8_6
      try clear hcz8_7
      try clear hcz8_8
      try clear hcz8_9
      try clear hfz10_0
      try clear hfz10_1
      try clear hfz10_10
      try clear hfz10_11
      try clear hfz10_12
      try clear hfz10_2
      try clear hfz10_3
      try clear hfz10_4
      try clear hfz10_5
      try clear hfz10_6
      try clear hfz10_7
      try clear hfz10_8
      try clear hfz10_9
      try clear hfz12_0
      try clear hfz12_1
      try clear hfz12_10
      try clear hfz12_11
      try clear hfz12_12
      try clear hfz12_2
      try clear hfz12_3
      try clear hfz12_4
      try clear hfz12_5
      try clear hfz12_6
      try clear hfz12_7
      try clear hfz12_8
      try clear hfz12_9
      try clear hfz14_0
      try clear hfz14_1
      try clear hfz14_10
      try clear hfz14_11
      try clear hfz14_12
      try clear hfz14_2
      try clear hfz14_3
      try clear hfz14_4
      try clear hfz14_5
      try clear hfz14_6
      try clear hfz14_7
      try clear hfz14_8
      try clear hfz14_9
      try clear hfz16_0
      try clear hfz16_1
      try clear hfz16_10
      try clear hfz16_11
      try clear hfz16_12
      try clear hfz16_2
      try clear hfz16_3
      try clear hfz16_4
      try clear hfz16_5
      try clear hfz16_6
      try clear hfz16_7
      try clear hfz16_8
      try clear hfz16_9
      try clear hfz19_0
      try clear hfz19_1
      try clear hfz19_10
      try clear hfz19_11
      try clear hfz19_12
      try clear hfz19_2
      try clear hfz19_3
      try clear hfz19_4
      try clear hfz19_5
      try clear hfz19_6
      try clear hfz19_7
      try clear hfz19_8
      try clear hfz19_9
      try clear hfz23_0
      try clear hfz23_1
      try clear hfz23_10
      try clear hfz23_11
      try clear hfz23_12
      try clear hfz23_2
      try clear hfz23_3
      try clear hfz23_4
      try clear hfz23_5
      try clear hfz23_6
      try clear hfz23_7
      try clear hfz23_8
      try clear hfz23_9
      try clear hfz24_0
      try clear hfz24_1
      try clear hfz24_10
      try clear hfz24_11
      try clear hfz24_12
      try clear hfz24_2
      try clear hfz24_3
      try clear hfz24_4
      try clear hfz24_5
      try clear hfz24_6
      try clear hfz24_7
      try clear hfz24_8
      try clear hfz24_9
      try clear hfz25_0
      try clear hfz25_1
      try clear hfz25_10
      try clear hfz25_11
      try clear hfz25_12
      try clear hfz25_2
      try clear hfz25_3
      try clear hfz25_4
      try clear hfz25_5
      try clear hfz25_6
      try clear hfz25_7
      try clear hfz25_8
      try clear hfz25_9
      try clear hfz26_0
      try clear hfz26_1
      try clear hfz26_10
      try clear hfz26_11
      try clear hfz26_12
      try clear hfz26_2
      try clear hfz26_3
      try clear hfz26_4
      try clear hfz26_5
      try clear hfz26_6
      try clear hfz26_7
      try clear hfz26_8
      try clear hfz26_9
      try clear hfz8_0
      try clear hfz8_1
      try clear hfz8_10
      try clear hfz8_11
      try clear hfz8_12
      try clear hfz8_2
      try clear hfz8_3
      try clear hfz8_4
      try clear hfz8_5
      try clear hfz8_6
      try clear hfz8_7
      try clear hfz8_8
      try clear hfz8_9
      obtain ⟨kq, x51_16, rfl, HA, HJ16, BK231, HB⟩ := hcut
      cases kq with
      | zero => exact absurd HA.out (by simp [demurralref08_Right.j0])
      | succ kj16 =>
        have H := HA.out
        clear HA
        simp only [demurralref08_Right.j0] at H
        by_cases c27 : x51_16 = true
        · subst c27
          have H1 : (some false) = some r := by rw [if_pos rfl] at H; exact H
          clear H
          have H := H1
          clear H1
          obtain rfl := Option.some.inj H
          go_wp2
          go_ret
          exact ⟨by first | rfl | (simp [errW_none, errW_some] <;> rfl) | (simp [*, errW_none, errW_some] <;> rfl), by repeat (first | (with_reducible first | exact HB.out | apply below_alloc | apply pw_below_drewN | apply below_drew1 | refine below_set ?_ GE231.out) | exact HB.out)⟩
        · replace c27 := Bool.eq_false_iff.mpr c27
          subst c27
          have H1 : (if a0_0 = 1 then (if (a0_8.size : Int) = 32 then (if (a0_11.size : Int) ≤ 1024 then (some ((l0_12.length : Int) == 0)) else (some false)) else (some false)) else (if a0_0 = 2 then (if a0_8.toList = ([] : List UInt8) then (if a0_11.toList = ([] : List UInt8) then (if a0_9 = 0 then (if a0_10 = 0 then ((demurralref08_keys.f kj16 l0_12).bind fun t232 => (some t232)) else (some false)) else (some false)) else (some false)) else (some false)) else (some false))) = some r := by rw [if_neg (show ¬ (false = true) by decide)] at H; exact H
          clear H
          have H := H1
          clear H1
          by_cases c28 : a0_0 = 1
          · rw [if_pos c28] at H
            have c28b0 : (a0_0 == 1) = true := beq_iff_eq.mpr c28
            have c28b1 : (a0_0 != 1) = false := bne_eq_false_iff_eq.mpr c28
            clear c28
            by_cases c29 : (a0_8.size : Int) = 32
            · rw [if_pos c29] at H
              have c29b0 : ((a0_8.size : Int) == 32) = true := beq_iff_eq.mpr c29
              have c29b1 : ((a0_8.size : Int) != 32) = false := bne_eq_false_iff_eq.mpr c29
              clear c29
              by_cases c30 : (a0_11.size : Int) ≤ 1024
              · rw [if_pos c30] at H
                have c30b0 : decide ((a0_11.size : Int) ≤ 1024) = true := decide_eq_true c30
                have c30b1 : decide (a0_11.size ≤ 1024) = true := decide_eq_true (by omega)
                clear c30
                obtain rfl := Option.some.inj H
                have hcz31_0 : wc.cell? ⟨gb231, 0, none⟩ = some (.int .i64 a0_0) := (blk_cell BK231.out 0).trans rfl
                have hcz31_1 : wc.cell? ⟨gb231, 1, none⟩ = some (.int .u64 a0_1) := (blk_cell BK231.out 1).trans rfl
                have hcz31_2 : wc.cell? ⟨gb231, 2, none⟩ = some (.int .u64 a0_2) := (blk_cell BK231.out 2).trans rfl
                have hcz31_3 : wc.cell? ⟨gb231, 3, none⟩ = some (.int .u64 a0_3) := (blk_cell BK231.out 3).trans rfl
                have hcz31_4 : wc.cell? ⟨gb231, 4, none⟩ = some (.string a0_4) := (blk_cell BK231.out 4).trans rfl
                have hcz31_5 : wc.cell? ⟨gb231, 5, none⟩ = some (.string a0_5) := (blk_cell BK231.out 5).trans rfl
                have hcz31_6 : wc.cell? ⟨gb231, 6, none⟩ = some (.int .u64 a0_6) := (blk_cell BK231.out 6).trans rfl
                have hcz31_7 : wc.cell? ⟨gb231, 7, none⟩ = some (.int .u64 a0_7) := (blk_cell BK231.out 7).trans rfl
                have hcz31_8 : wc.cell? ⟨gb231, 8, none⟩ = some (.string a0_8) := (blk_cell BK231.out 8).trans rfl
                have hcz31_9 : wc.cell? ⟨gb231, 9, none⟩ = some (.int .u64 a0_9) := (blk_cell BK231.out 9).trans rfl
                have hcz31_10 : wc.cell? ⟨gb231, 10, none⟩ = some (.int .u64 a0_10) := (blk_cell BK231.out 10).trans rfl
                have hcz31_11 : wc.cell? ⟨gb231, 11, none⟩ = some (.string a0_11) := (blk_cell BK231.out 11).trans rfl
                have hcz31_12 : wc.cell? ⟨gb231, 12, none⟩ = some (.slice A0_12 l0_12.length c0_12) := (blk_cell BK231.out 12).trans rfl
                have hfz31_0 := blk_frozen BK231.out 0
                have hfz31_1 := blk_frozen BK231.out 1
                have hfz31_2 := blk_frozen BK231.out 2
                have hfz31_3 := blk_frozen BK231.out 3
                have hfz31_4 := blk_frozen BK231.out 4
                have hfz31_5 := blk_frozen BK231.out 5
                have hfz31_6 := blk_frozen BK231.out 6
                have hfz31_7 := blk_frozen BK231.out 7
                have hfz31_8 := blk_frozen BK231.out 8
                have hfz31_9 := blk_frozen BK231.out 9
                have hfz31_10 := blk_frozen BK231.out 10
                have hfz31_11 := blk_frozen BK231.out 11
                have hfz31_12 := blk_frozen BK231.out 12
                go_wp2
                go_ret
                exact ⟨by first | rfl | (simp [errW_none, errW_some] <;> rfl) | (simp [*, errW_none, errW_some] <;> rfl), by repeat (first | (with_reducible first | exact HB.out | apply below_alloc | apply pw_below_drewN | apply below_drew1 | refine below_set ?_ GE231.out) | exact HB.out)⟩
              · rw [if_neg c30] at H
                have c30b0 : decide ((a0_11.size : Int) ≤ 1024) = false := decide_eq_false c30
                have c30b1 : decide (a0_11.size ≤ 1024) = false := decide_eq_false (by omega)
                clear c30
                obtain rfl := Option.some.inj H
                have hcz32_0 : wc.cell? ⟨gb231, 0, none⟩ = some (.int .i64 a0_0) := (blk_cell BK231.out 0).trans rfl
                have hcz32_1 : wc.cell? ⟨gb231, 1, none⟩ = some (.int .u64 a0_1) := (blk_cell BK231.out 1).trans rfl
                have hcz32_2 : wc.cell? ⟨gb231, 2, none⟩ = some (.int .u64 a0_2) := (blk_cell BK231.out 2).trans rfl
                have hcz32_3 : wc.cell? ⟨gb231, 3, none⟩ = some (.int .u64 a0_3) := (blk_cell BK231.out 3).trans rfl
                have hcz32_4 : wc.cell? ⟨gb231, 4, none⟩ = some (.string a0_4) := (blk_cell BK231.out 4).trans rfl
                have hcz32_5 : wc.cell? ⟨gb231, 5, none⟩ = some (.string a0_5) := (blk_cell BK231.out 5).trans rfl
                have hcz32_6 : wc.cell? ⟨gb231, 6, none⟩ = some (.int .u64 a0_6) := (blk_cell BK231.out 6).trans rfl
                have hcz32_7 : wc.cell? ⟨gb231, 7, none⟩ = some (.int .u64 a0_7) := (blk_cell BK231.out 7).trans rfl
                have hcz32_8 : wc.cell? ⟨gb231, 8, none⟩ = some (.string a0_8) := (blk_cell BK231.out 8).trans rfl
                have hcz32_9 : wc.cell? ⟨gb231, 9, none⟩ = some (.int .u64 a0_9) := (blk_cell BK231.out 9).trans rfl
                have hcz32_10 : wc.cell? ⟨gb231, 10, none⟩ = some (.int .u64 a0_10) := (blk_cell BK231.out 10).trans rfl
                have hcz32_11 : wc.cell? ⟨gb231, 11, none⟩ = some (.string a0_11) := (blk_cell BK231.out 11).trans rfl
                have hcz32_12 : wc.cell? ⟨gb231, 12, none⟩ = some (.slice A0_12 l0_12.length c0_12) := (blk_cell BK231.out 12).trans rfl
                have hfz32_0 := blk_frozen BK231.out 0
                have hfz32_1 := blk_frozen BK231.out 1
                have hfz32_2 := blk_frozen BK231.out 2
                have hfz32_3 := blk_frozen BK231.out 3
                have hfz32_4 := blk_frozen BK231.out 4
                have hfz32_5 := blk_frozen BK231.out 5
                have hfz32_6 := blk_frozen BK231.out 6
                have hfz32_7 := blk_frozen BK231.out 7
                have hfz32_8 := blk_frozen BK231.out 8
                have hfz32_9 := blk_frozen BK231.out 9
                have hfz32_10 := blk_frozen BK231.out 10
                have hfz32_11 := blk_frozen BK231.out 11
                have hfz32_12 := blk_frozen BK231.out 12
                go_wp2
                go_ret
                exact ⟨by first | rfl | (simp [errW_none, errW_some] <;> rfl) | (simp [*, errW_none, errW_some] <;> rfl), by repeat (first | (with_reducible first | exact HB.out | apply below_alloc | apply pw_below_drewN | apply below_drew1 | refine below_set ?_ GE231.out) | exact HB.out)⟩
            · rw [if_neg c29] at H
              have c29b0 : ((a0_8.size : Int) == 32) = false := beq_eq_false_iff_ne.mpr c29
              have c29b1 : ((a0_8.size : Int) != 32) = true := bne_iff_ne.mpr c29
              obtain rfl := Option.some.inj H
              have hcz33_0 : wc.cell? ⟨gb231, 0, none⟩ = some (.int .i64 a0_0) := (blk_cell BK231.out 0).trans rfl
              have hcz33_1 : wc.cell? ⟨gb231, 1, none⟩ = some (.int .u64 a0_1) := (blk_cell BK231.out 1).trans rfl
              have hcz33_2 : wc.cell? ⟨gb231, 2, none⟩ = some (.int .u64 a0_2) := (blk_cell BK231.out 2).trans rfl
              have hcz33_3 : wc.cell? ⟨gb231, 3, none⟩ = some (.int .u64 a0_3) := (blk_cell BK231.out 3).trans rfl
              have hcz33_4 : wc.cell? ⟨gb231, 4, none⟩ = some (.string a0_4) := (blk_cell BK231.out 4).trans rfl
              have hcz33_5 : wc.cell? ⟨gb231, 5, none⟩ = some (.string a0_5) := (blk_cell BK231.out 5).trans rfl
              have hcz33_6 : wc.cell? ⟨gb231, 6, none⟩ = some (.int .u64 a0_6) := (blk_cell BK231.out 6).trans rfl
              have hcz33_7 : wc.cell? ⟨gb231, 7, none⟩ = some (.int .u64 a0_7) := (blk_cell BK231.out 7).trans rfl
              have hcz33_8 : wc.cell? ⟨gb231, 8, none⟩ = some (.string a0_8) := (blk_cell BK231.out 8).trans rfl
              have hcz33_9 : wc.cell? ⟨gb231, 9, none⟩ = some (.int .u64 a0_9) := (blk_cell BK231.out 9).trans rfl
              have hcz33_10 : wc.cell? ⟨gb231, 10, none⟩ = some (.int .u64 a0_10) := (blk_cell BK231.out 10).trans rfl
              have hcz33_11 : wc.cell? ⟨gb231, 11, none⟩ = some (.string a0_11) := (blk_cell BK231.out 11).trans rfl
              have hcz33_12 : wc.cell? ⟨gb231, 12, none⟩ = some (.slice A0_12 l0_12.length c0_12) := (blk_cell BK231.out 12).trans rfl
              have hfz33_0 := blk_frozen BK231.out 0
              have hfz33_1 := blk_frozen BK231.out 1
              have hfz33_2 := blk_frozen BK231.out 2
              have hfz33_3 := blk_frozen BK231.out 3
              have hfz33_4 := blk_frozen BK231.out 4
              have hfz33_5 := blk_frozen BK231.out 5
              have hfz33_6 := blk_frozen BK231.out 6
              have hfz33_7 := blk_frozen BK231.out 7
              have hfz33_8 := blk_frozen BK231.out 8
              have hfz33_9 := blk_frozen BK231.out 9
              have hfz33_10 := blk_frozen BK231.out 10
              have hfz33_11 := blk_frozen BK231.out 11
              have hfz33_12 := blk_frozen BK231.out 12
              go_wp2
              go_ret
              exact ⟨by first | rfl | (simp [errW_none, errW_some] <;> rfl) | (simp [*, errW_none, errW_some] <;> rfl), by repeat (first | (with_reducible first | exact HB.out | apply below_alloc | apply pw_below_drewN | apply below_drew1 | refine below_set ?_ GE231.out) | exact HB.out)⟩
          · rw [if_neg c28] at H
            have c28b0 : (a0_0 == 1) = false := beq_eq_false_iff_ne.mpr c28
            have c28b1 : (a0_0 != 1) = true := bne_iff_ne.mpr c28
            by_cases c34 : a0_0 = 2
            · rw [if_pos c34] at H
              have c34b0 : (a0_0 == 2) = true := beq_iff_eq.mpr c34
              have c34b1 : (a0_0 != 2) = false := bne_eq_false_iff_eq.mpr c34
              clear c34
              by_cases c35 : a0_8.toList = ([] : List UInt8)
              · rw [if_pos c35] at H
                have c35b0 : (a0_8.toList == ([] : List UInt8)) = true := beq_iff_eq.mpr c35
                have c35b1 : (a0_8.toList != ([] : List UInt8)) = false := bne_eq_false_iff_eq.mpr c35
                clear c35
                by_cases c36 : a0_11.toList = ([] : List UInt8)
                · rw [if_pos c36] at H
                  have c36b0 : (a0_11.toList == ([] : List UInt8)) = true := beq_iff_eq.mpr c36
                  have c36b1 : (a0_11.toList != ([] : List UInt8)) = false := bne_eq_false_iff_eq.mpr c36
                  clear c36
                  by_cases c37 : a0_9 = 0
                  · rw [if_pos c37] at H
                    have c37b0 : (a0_9 == 0) = true := beq_iff_eq.mpr c37
                    have c37b1 : (a0_9 != 0) = false := bne_eq_false_iff_eq.mpr c37
                    clear c37
                    by_cases c38 : a0_10 = 0
                    · rw [if_pos c38] at H
                      have c38b0 : (a0_10 == 0) = true := beq_iff_eq.mpr c38
                      have c38b1 : (a0_10 != 0) = false := bne_eq_false_iff_eq.mpr c38
                      clear c38
                      replace H := Option.bind_eq_some_iff.mp H
                      obtain ⟨t232, A390, H⟩ := H
                      replace H : (some t232) = some r := H
                      have A39 := Aside0.mk A390
                      clear A390
                      obtain rfl := Option.some.inj H
                      have hcz40_0 : wc.cell? ⟨gb231, 0, none⟩ = some (.int .i64 a0_0) := (blk_cell BK231.out 0).trans rfl
                      have hcz40_1 : wc.cell? ⟨gb231, 1, none⟩ = some (.int .u64 a0_1) := (blk_cell BK231.out 1).trans rfl
                      have hcz40_2 : wc.cell? ⟨gb231, 2, none⟩ = some (.int .u64 a0_2) := (blk_cell BK231.out 2).trans rfl
                      have hcz40_3 : wc.cell? ⟨gb231, 3, none⟩ = some (.int .u64 a0_3) := (blk_cell BK231.out 3).trans rfl
                      have hcz40_4 : wc.cell? ⟨gb231, 4, none⟩ = some (.string a0_4) := (blk_cell BK231.out 4).trans rfl
                      have hcz40_5 : wc.cell? ⟨gb231, 5, none⟩ = some (.string a0_5) := (blk_cell BK231.out 5).trans rfl
                      have hcz40_6 : wc.cell? ⟨gb231, 6, none⟩ = some (.int .u64 a0_6) := (blk_cell BK231.out 6).trans rfl
                      have hcz40_7 : wc.cell? ⟨gb231, 7, none⟩ = some (.int .u64 a0_7) := (blk_cell BK231.out 7).trans rfl
                      have hcz40_8 : wc.cell? ⟨gb231, 8, none⟩ = some (.string a0_8) := (blk_cell BK231.out 8).trans rfl
                      have hcz40_9 : wc.cell? ⟨gb231, 9, none⟩ = some (.int .u64 a0_9) := (blk_cell BK231.out 9).trans rfl
                      have hcz40_10 : wc.cell? ⟨gb231, 10, none⟩ = some (.int .u64 a0_10) := (blk_cell BK231.out 10).trans rfl
                      have hcz40_11 : wc.cell? ⟨gb231, 11, none⟩ = some (.string a0_11) := (blk_cell BK231.out 11).trans rfl
                      have hcz40_12 : wc.cell? ⟨gb231, 12, none⟩ = some (.slice A0_12 l0_12.length c0_12) := (blk_cell BK231.out 12).trans rfl
                      have hfz40_0 := blk_frozen BK231.out 0
                      have hfz40_1 := blk_frozen BK231.out 1
                      have hfz40_2 := blk_frozen BK231.out 2
                      have hfz40_3 := blk_frozen BK231.out 3
                      have hfz40_4 := blk_frozen BK231.out 4
                      have hfz40_5 := blk_frozen BK231.out 5
                      have hfz40_6 := blk_frozen BK231.out 6
                      have hfz40_7 := blk_frozen BK231.out 7
                      have hfz40_8 := blk_frozen BK231.out 8
                      have hfz40_9 := blk_frozen BK231.out 9
                      have hfz40_10 := blk_frozen BK231.out 10
                      have hfz40_11 := blk_frozen BK231.out 11
                      have hfz40_12 := blk_frozen BK231.out 12
                      go_wp2_with (first | (go_at_call 30; (with_reducible refine (demurralref08_keys.calls kj16 _ _ l0_12 t232 _ ?side1 ?side2 A39.out).mono ?_); (case side1 => repeat (first | exact (Kd.C_below HR0_12.out HB.out) | (with_reducible refine Kd.C_alloc ?_ _) | (with_reducible refine Kd.C_drewN ?_ _) | (with_reducible refine Kd.C_drew ?_))); (case side2 => exact HC0_12.out); rintro e w' ⟨rfl, ⟨nd, rfl⟩⟩))
                      go_ret
                      exact ⟨by first | rfl | (simp [errW_none, errW_some] <;> rfl) | (simp [*, errW_none, errW_some] <;> rfl), by repeat (first | (with_reducible first | exact HB.out | apply below_alloc | apply pw_below_drewN | apply below_drew1 | refine below_set ?_ GE231.out) | exact HB.out)⟩
                    · rw [if_neg c38] at H
                      have c38b0 : (a0_10 == 0) = false := beq_eq_false_iff_ne.mpr c38
                      have c38b1 : (a0_10 != 0) = true := bne_iff_ne.mpr c38
                      obtain rfl := Option.some.inj H
                      have hcz41_0 : wc.cell? ⟨gb231, 0, none⟩ = some (.int .i64 a0_0) := (blk_cell BK231.out 0).trans rfl
                      have hcz41_1 : wc.cell? ⟨gb231, 1, none⟩ = some (.int .u64 a0_1) := (blk_cell BK231.out 1).trans rfl
                      have hcz41_2 : wc.cell? ⟨gb231, 2, none⟩ = some (.int .u64 a0_2) := (blk_cell BK231.out 2).trans rfl
                      have hcz41_3 : wc.cell? ⟨gb231, 3, none⟩ = some (.int .u64 a0_3) := (blk_cell BK231.out 3).trans rfl
                      have hcz41_4 : wc.cell? ⟨gb231, 4, none⟩ = some (.string a0_4) := (blk_cell BK231.out 4).trans rfl
                      have hcz41_5 : wc.cell? ⟨gb231, 5, none⟩ = some (.string a0_5) := (blk_cell BK231.out 5).trans rfl
                      have hcz41_6 : wc.cell? ⟨gb231, 6, none⟩ = some (.int .u64 a0_6) := (blk_cell BK231.out 6).trans rfl
                      have hcz41_7 : wc.cell? ⟨gb231, 7, none⟩ = some (.int .u64 a0_7) := (blk_cell BK231.out 7).trans rfl
                      have hcz41_8 : wc.cell? ⟨gb231, 8, none⟩ = some (.string a0_8) := (blk_cell BK231.out 8).trans rfl
                      have hcz41_9 : wc.cell? ⟨gb231, 9, none⟩ = some (.int .u64 a0_9) := (blk_cell BK231.out 9).trans rfl
                      have hcz41_10 : wc.cell? ⟨gb231, 10, none⟩ = some (.int .u64 a0_10) := (blk_cell BK231.out 10).trans rfl
                      have hcz41_11 : wc.cell? ⟨gb231, 11, none⟩ = some (.string a0_11) := (blk_cell BK231.out 11).trans rfl
                      have hcz41_12 : wc.cell? ⟨gb231, 12, none⟩ = some (.slice A0_12 l0_12.length c0_12) := (blk_cell BK231.out 12).trans rfl
                      have hfz41_0 := blk_frozen BK231.out 0
                      have hfz41_1 := blk_frozen BK231.out 1
                      have hfz41_2 := blk_frozen BK231.out 2
                      have hfz41_3 := blk_frozen BK231.out 3
                      have hfz41_4 := blk_frozen BK231.out 4
                      have hfz41_5 := blk_frozen BK231.out 5
                      have hfz41_6 := blk_frozen BK231.out 6
                      have hfz41_7 := blk_frozen BK231.out 7
                      have hfz41_8 := blk_frozen BK231.out 8
                      have hfz41_9 := blk_frozen BK231.out 9
                      have hfz41_10 := blk_frozen BK231.out 10
                      have hfz41_11 := blk_frozen BK231.out 11
                      have hfz41_12 := blk_frozen BK231.out 12
                      go_wp2
                      go_ret
                      exact ⟨by first | rfl | (simp [errW_none, errW_some] <;> rfl) | (simp [*, errW_none, errW_some] <;> rfl), by repeat (first | (with_reducible first | exact HB.out | apply below_alloc | apply pw_below_drewN | apply below_drew1 | refine below_set ?_ GE231.out) | exact HB.out)⟩
                  · rw [if_neg c37] at H
                    have c37b0 : (a0_9 == 0) = false := beq_eq_false_iff_ne.mpr c37
                    have c37b1 : (a0_9 != 0) = true := bne_iff_ne.mpr c37
                    obtain rfl := Option.some.inj H
                    have hcz42_0 : wc.cell? ⟨gb231, 0, none⟩ = some (.int .i64 a0_0) := (blk_cell BK231.out 0).trans rfl
                    have hcz42_1 : wc.cell? ⟨gb231, 1, none⟩ = some (.int .u64 a0_1) := (blk_cell BK231.out 1).trans rfl
                    have hcz42_2 : wc.cell? ⟨gb231, 2, none⟩ = some (.int .u64 a0_2) := (blk_cell BK231.out 2).trans rfl
                    have hcz42_3 : wc.cell? ⟨gb231, 3, none⟩ = some (.int .u64 a0_3) := (blk_cell BK231.out 3).trans rfl
                    have hcz42_4 : wc.cell? ⟨gb231, 4, none⟩ = some (.string a0_4) := (blk_cell BK231.out 4).trans rfl
                    have hcz42_5 : wc.cell? ⟨gb231, 5, none⟩ = some (.string a0_5) := (blk_cell BK231.out 5).trans rfl
                    have hcz42_6 : wc.cell? ⟨gb231, 6, none⟩ = some (.int .u64 a0_6) := (blk_cell BK231.out 6).trans rfl
                    have hcz42_7 : wc.cell? ⟨gb231, 7, none⟩ = some (.int .u64 a0_7) := (blk_cell BK231.out 7).trans rfl
                    have hcz42_8 : wc.cell? ⟨gb231, 8, none⟩ = some (.string a0_8) := (blk_cell BK231.out 8).trans rfl
                    have hcz42_9 : wc.cell? ⟨gb231, 9, none⟩ = some (.int .u64 a0_9) := (blk_cell BK231.out 9).trans rfl
                    have hcz42_10 : wc.cell? ⟨gb231, 10, none⟩ = some (.int .u64 a0_10) := (blk_cell BK231.out 10).trans rfl
                    have hcz42_11 : wc.cell? ⟨gb231, 11, none⟩ = some (.string a0_11) := (blk_cell BK231.out 11).trans rfl
                    have hcz42_12 : wc.cell? ⟨gb231, 12, none⟩ = some (.slice A0_12 l0_12.length c0_12) := (blk_cell BK231.out 12).trans rfl
                    have hfz42_0 := blk_frozen BK231.out 0
                    have hfz42_1 := blk_frozen BK231.out 1
                    have hfz42_2 := blk_frozen BK231.out 2
                    have hfz42_3 := blk_frozen BK231.out 3
                    have hfz42_4 := blk_frozen BK231.out 4
                    have hfz42_5 := blk_frozen BK231.out 5
                    have hfz42_6 := blk_frozen BK231.out 6
                    have hfz42_7 := blk_frozen BK231.out 7
                    have hfz42_8 := blk_frozen BK231.out 8
                    have hfz42_9 := blk_frozen BK231.out 9
                    have hfz42_10 := blk_frozen BK231.out 10
                    have hfz42_11 := blk_frozen BK231.out 11
                    have hfz42_12 := blk_frozen BK231.out 12
                    go_wp2
                    go_ret
                    exact ⟨by first | rfl | (simp [errW_none, errW_some] <;> rfl) | (simp [*, errW_none, errW_some] <;> rfl), by repeat (first | (with_reducible first | exact HB.out | apply below_alloc | apply pw_below_drewN | apply below_drew1 | refine below_set ?_ GE231.out) | exact HB.out)⟩
                · rw [if_neg c36] at H
                  have c36b0 : (a0_11.toList == ([] : List UInt8)) = false := beq_eq_false_iff_ne.mpr c36
                  have c36b1 : (a0_11.toList != ([] : List UInt8)) = true := bne_iff_ne.mpr c36
                  obtain rfl := Option.some.inj H
                  have hcz43_0 : wc.cell? ⟨gb231, 0, none⟩ = some (.int .i64 a0_0) := (blk_cell BK231.out 0).trans rfl
                  have hcz43_1 : wc.cell? ⟨gb231, 1, none⟩ = some (.int .u64 a0_1) := (blk_cell BK231.out 1).trans rfl
                  have hcz43_2 : wc.cell? ⟨gb231, 2, none⟩ = some (.int .u64 a0_2) := (blk_cell BK231.out 2).trans rfl
                  have hcz43_3 : wc.cell? ⟨gb231, 3, none⟩ = some (.int .u64 a0_3) := (blk_cell BK231.out 3).trans rfl
                  have hcz43_4 : wc.cell? ⟨gb231, 4, none⟩ = some (.string a0_4) := (blk_cell BK231.out 4).trans rfl
                  have hcz43_5 : wc.cell? ⟨gb231, 5, none⟩ = some (.string a0_5) := (blk_cell BK231.out 5).trans rfl
                  have hcz43_6 : wc.cell? ⟨gb231, 6, none⟩ = some (.int .u64 a0_6) := (blk_cell BK231.out 6).trans rfl
                  have hcz43_7 : wc.cell? ⟨gb231, 7, none⟩ = some (.int .u64 a0_7) := (blk_cell BK231.out 7).trans rfl
                  have hcz43_8 : wc.cell? ⟨gb231, 8, none⟩ = some (.string a0_8) := (blk_cell BK231.out 8).trans rfl
                  have hcz43_9 : wc.cell? ⟨gb231, 9, none⟩ = some (.int .u64 a0_9) := (blk_cell BK231.out 9).trans rfl
                  have hcz43_10 : wc.cell? ⟨gb231, 10, none⟩ = some (.int .u64 a0_10) := (blk_cell BK231.out 10).trans rfl
                  have hcz43_11 : wc.cell? ⟨gb231, 11, none⟩ = some (.string a0_11) := (blk_cell BK231.out 11).trans rfl
                  have hcz43_12 : wc.cell? ⟨gb231, 12, none⟩ = some (.slice A0_12 l0_12.length c0_12) := (blk_cell BK231.out 12).trans rfl
                  have hfz43_0 := blk_frozen BK231.out 0
                  have hfz43_1 := blk_frozen BK231.out 1
                  have hfz43_2 := blk_frozen BK231.out 2
                  have hfz43_3 := blk_frozen BK231.out 3
                  have hfz43_4 := blk_frozen BK231.out 4
                  have hfz43_5 := blk_frozen BK231.out 5
                  have hfz43_6 := blk_frozen BK231.out 6
                  have hfz43_7 := blk_frozen BK231.out 7
                  have hfz43_8 := blk_frozen BK231.out 8
                  have hfz43_9 := blk_frozen BK231.out 9
                  have hfz43_10 := blk_frozen BK231.out 10
                  have hfz43_11 := blk_frozen BK231.out 11
                  have hfz43_12 := blk_frozen BK231.out 12
                  go_wp2
                  go_ret
                  exact ⟨by first | rfl | (simp [errW_none, errW_some] <;> rfl) | (simp [*, errW_none, errW_some] <;> rfl), by repeat (first | (with_reducible first | exact HB.out | apply below_alloc | apply pw_below_drewN | apply below_drew1 | refine below_set ?_ GE231.out) | exact HB.out)⟩
              · rw [if_neg c35] at H
                have c35b0 : (a0_8.toList == ([] : List UInt8)) = false := beq_eq_false_iff_ne.mpr c35
                have c35b1 : (a0_8.toList != ([] : List UInt8)) = true := bne_iff_ne.mpr c35
                obtain rfl := Option.some.inj H
                have hcz44_0 : wc.cell? ⟨gb231, 0, none⟩ = some (.int .i64 a0_0) := (blk_cell BK231.out 0).trans rfl
                have hcz44_1 : wc.cell? ⟨gb231, 1, none⟩ = some (.int .u64 a0_1) := (blk_cell BK231.out 1).trans rfl
                have hcz44_2 : wc.cell? ⟨gb231, 2, none⟩ = some (.int .u64 a0_2) := (blk_cell BK231.out 2).trans rfl
                have hcz44_3 : wc.cell? ⟨gb231, 3, none⟩ = some (.int .u64 a0_3) := (blk_cell BK231.out 3).trans rfl
                have hcz44_4 : wc.cell? ⟨gb231, 4, none⟩ = some (.string a0_4) := (blk_cell BK231.out 4).trans rfl
                have hcz44_5 : wc.cell? ⟨gb231, 5, none⟩ = some (.string a0_5) := (blk_cell BK231.out 5).trans rfl
                have hcz44_6 : wc.cell? ⟨gb231, 6, none⟩ = some (.int .u64 a0_6) := (blk_cell BK231.out 6).trans rfl
                have hcz44_7 : wc.cell? ⟨gb231, 7, none⟩ = some (.int .u64 a0_7) := (blk_cell BK231.out 7).trans rfl
                have hcz44_8 : wc.cell? ⟨gb231, 8, none⟩ = some (.string a0_8) := (blk_cell BK231.out 8).trans rfl
                have hcz44_9 : wc.cell? ⟨gb231, 9, none⟩ = some (.int .u64 a0_9) := (blk_cell BK231.out 9).trans rfl
                have hcz44_10 : wc.cell? ⟨gb231, 10, none⟩ = some (.int .u64 a0_10) := (blk_cell BK231.out 10).trans rfl
                have hcz44_11 : wc.cell? ⟨gb231, 11, none⟩ = some (.string a0_11) := (blk_cell BK231.out 11).trans rfl
                have hcz44_12 : wc.cell? ⟨gb231, 12, none⟩ = some (.slice A0_12 l0_12.length c0_12) := (blk_cell BK231.out 12).trans rfl
                have hfz44_0 := blk_frozen BK231.out 0
                have hfz44_1 := blk_frozen BK231.out 1
                have hfz44_2 := blk_frozen BK231.out 2
                have hfz44_3 := blk_frozen BK231.out 3
                have hfz44_4 := blk_frozen BK231.out 4
                have hfz44_5 := blk_frozen BK231.out 5
                have hfz44_6 := blk_frozen BK231.out 6
                have hfz44_7 := blk_frozen BK231.out 7
                have hfz44_8 := blk_frozen BK231.out 8
                have hfz44_9 := blk_frozen BK231.out 9
                have hfz44_10 := blk_frozen BK231.out 10
                have hfz44_11 := blk_frozen BK231.out 11
                have hfz44_12 := blk_frozen BK231.out 12
                go_wp2
                go_ret
                exact ⟨by first | rfl | (simp [errW_none, errW_some] <;> rfl) | (simp [*, errW_none, errW_some] <;> rfl), by repeat (first | (with_reducible first | exact HB.out | apply below_alloc | apply pw_below_drewN | apply below_drew1 | refine below_set ?_ GE231.out) | exact HB.out)⟩
            · rw [if_neg c34] at H
              have c34b0 : (a0_0 == 2) = false := beq_eq_false_iff_ne.mpr c34
              have c34b1 : (a0_0 != 2) = true := bne_iff_ne.mpr c34
              obtain rfl := Option.some.inj H
              have hcz45_0 : wc.cell? ⟨gb231, 0, none⟩ = some (.int .i64 a0_0) := (blk_cell BK231.out 0).trans rfl
              have hcz45_1 : wc.cell? ⟨gb231, 1, none⟩ = some (.int .u64 a0_1) := (blk_cell BK231.out 1).trans rfl
              have hcz45_2 : wc.cell? ⟨gb231, 2, none⟩ = some (.int .u64 a0_2) := (blk_cell BK231.out 2).trans rfl
              have hcz45_3 : wc.cell? ⟨gb231, 3, none⟩ = some (.int .u64 a0_3) := (blk_cell BK231.out 3).trans rfl
              have hcz45_4 : wc.cell? ⟨gb231, 4, none⟩ = some (.string a0_4) := (blk_cell BK231.out 4).trans rfl
              have hcz45_5 : wc.cell? ⟨gb231, 5, none⟩ = some (.string a0_5) := (blk_cell BK231.out 5).trans rfl
              have hcz45_6 : wc.cell? ⟨gb231, 6, none⟩ = some (.int .u64 a0_6) := (blk_cell BK231.out 6).trans rfl
              have hcz45_7 : wc.cell? ⟨gb231, 7, none⟩ = some (.int .u64 a0_7) := (blk_cell BK231.out 7).trans rfl
              have hcz45_8 : wc.cell? ⟨gb231, 8, none⟩ = some (.string a0_8) := (blk_cell BK231.out 8).trans rfl
              have hcz45_9 : wc.cell? ⟨gb231, 9, none⟩ = some (.int .u64 a0_9) := (blk_cell BK231.out 9).trans rfl
              have hcz45_10 : wc.cell? ⟨gb231, 10, none⟩ = some (.int .u64 a0_10) := (blk_cell BK231.out 10).trans rfl
              have hcz45_11 : wc.cell? ⟨gb231, 11, none⟩ = some (.string a0_11) := (blk_cell BK231.out 11).trans rfl
              have hcz45_12 : wc.cell? ⟨gb231, 12, none⟩ = some (.slice A0_12 l0_12.length c0_12) := (blk_cell BK231.out 12).trans rfl
              have hfz45_0 := blk_frozen BK231.out 0
              have hfz45_1 := blk_frozen BK231.out 1
              have hfz45_2 := blk_frozen BK231.out 2
              have hfz45_3 := blk_frozen BK231.out 3
              have hfz45_4 := blk_frozen BK231.out 4
              have hfz45_5 := blk_frozen BK231.out 5
              have hfz45_6 := blk_frozen BK231.out 6
              have hfz45_7 := blk_frozen BK231.out 7
              have hfz45_8 := blk_frozen BK231.out 8
              have hfz45_9 := blk_frozen BK231.out 9
              have hfz45_10 := blk_frozen BK231.out 10
              have hfz45_11 := blk_frozen BK231.out 11
              have hfz45_12 := blk_frozen BK231.out 12
              go_wp2
              go_ret
              exact ⟨by first | rfl | (simp [errW_none, errW_some] <;> rfl) | (simp [*, errW_none, errW_some] <;> rfl), by repeat (first | (with_reducible first | exact HB.out | apply below_alloc | apply pw_below_drewN | apply below_drew1 | refine below_set ?_ GE231.out) | exact HB.out)⟩

end Go.Proofs.Ytfghjahmnjghgaa.PFr

namespace Go.Proofs.Ytfghjahmnjghgaa.PFr
open Go.RowKit Go.Proofs.YtfghjahmnjghgaaW.PrintWords Go.Proofs.YtfghjahmnjghgaaW.PrintLast Go.Proofs.YtfghjahmnjghgaaW.PrintMore
attribute [local go_sem] max2_int min2_int max_two min_two max_three min_three max_four min_four   -- for this text's walks alone
set_option linter.unusedVariables false
set_option linter.unusedSimpArgs false

/-! ### frame_text: function 44 -/
def frame_text.f (a0 : ByteArray) : Option (Bool × Int × ByteArray) := some (true, 0, a0)
set_option maxHeartbeats 8000000 in
set_option maxRecDepth 100000 in
theorem frame_text.calls (a0 : ByteArray) (r1 : Bool) (r2 : Int) (r3 : ByteArray) (w : World) (h : frame_text.f a0 = some (r1, r2, r3)) :
    Calls Try.prog 44 #[.string a0] w fun e w' => e = .returned (.agg #[.bool r1, .int .u64 r2, .string r3]) ∧ Below w.heap.size w w' := by
  have hu67 := Try.underlying67
  have HB := Aside0.mk (Below.refl w.heap.size w)
  have H : (some (true, 0, a0)) = some (r1, r2, r3) := h
  clear h
  simp only [Option.some.injEq, Prod.mk.injEq] at H
  obtain ⟨rfl, rfl, rfl⟩ := H
  go_enter Try.func44, Try.ntmps44
  go_wp2_with (first | ((with_reducible refine gate_dst (N := 2) rfl ?_); refine box_event ?hg (N := 2) ?hd (cs := #[.bool false, .int .u64 0, .string (⟨#[]⟩ : ByteArray)]) (t := 67) ?hr ?_; (case hd => rfl); (case hg => rfl); (case hr => first | (go_simp; done) | (go_simp; rfl)); intro gb111 hg w2 hbox hb; have n0_ := Aside0.mk (below_step (by repeat (first | (with_reducible first | exact HB.out | apply below_alloc | apply pw_below_drewN | apply below_drew1) | exact HB.out)) hb); have n1_ := Aside0.mk (hbox); have n2_ := Aside0.mk ((by rw [hg]; exact (below_size (by repeat (first | (with_reducible first | exact HB.out | apply below_alloc | apply pw_below_drewN | apply below_drew1) | exact HB.out))) : w.heap.size ≤ gb111)); have n3_ := Aside0.mk ((by rw [hg]; exact (below_size (by repeat (first | (with_reducible first | exact HB.out | apply below_alloc | apply pw_below_drewN | apply below_drew1) | exact HB.out))) : w.heap.size ≤ gb111)); clear HB; have HB := n0_; have BK111 := n1_; have GW111 := n2_; have GE111 := n3_; clear n0_ n1_ n2_ n3_; clear hb hbox hg; have hcz3_0 : w2.cell? ⟨gb111, 0, none⟩ = some (.bool false) := (blk_cell BK111.out 0).trans rfl; have hcz3_1 : w2.cell? ⟨gb111, 1, none⟩ = some (.int .u64 0) := (blk_cell BK111.out 1).trans rfl; have hcz3_2 : w2.cell? ⟨gb111, 2, none⟩ = some (.string (⟨#[]⟩ : ByteArray)) := (blk_cell BK111.out 2).trans rfl; have hfz3_0 := blk_frozen BK111.out 0; have hfz3_1 := blk_frozen BK111.out 1; have hfz3_2 := blk_frozen BK111.out 2))
  refine bodyPost_ret (results_cell_row rfl _ _ gb111 67 #[.bool true, .int .u64 0, .string a0] (0, 0) _ rfl (by (with_reducible repeat (first | refine blk_drewN ?_ _ | refine blk_drew ?_ | refine blk_alloc ?_ _)); refine blk_put (cs := #[.bool true, .int .u64 0, .string (⟨#[]⟩ : ByteArray)]) ?_ 2 _ rfl; (with_reducible repeat (first | refine blk_drewN ?_ _ | refine blk_drew ?_ | refine blk_alloc ?_ _)); refine blk_put (cs := #[.bool true, .int .u64 0, .string (⟨#[]⟩ : ByteArray)]) ?_ 1 _ rfl; (with_reducible repeat (first | refine blk_drewN ?_ _ | refine blk_drew ?_ | refine blk_alloc ?_ _)); refine blk_put (cs := #[.bool false, .int .u64 0, .string (⟨#[]⟩ : ByteArray)]) ?_ 0 _ rfl; (with_reducible repeat (first | refine blk_drewN ?_ _ | refine blk_drew ?_ | refine blk_alloc ?_ _)); exact BK111.out) Try.underlying67 rfl (by kernel_rfl)) rfl ?_
  exact ⟨by first | rfl | (simp [errW_none, errW_some] <;> rfl) | (simp [*, errW_none, errW_some] <;> rfl), by repeat (first | (with_reducible first | exact HB.out | apply below_alloc | apply pw_below_drewN | apply below_drew1 | refine below_set ?_ GE111.out) | exact HB.out)⟩

/-! ### frame_number: function 45 -/
def frame_number.f (a0 : Int) : Option (Bool × Int × ByteArray) := some (false, a0, (⟨#[]⟩ : ByteArray))
set_option maxHeartbeats 8000000 in
set_option maxRecDepth 100000 in
theorem frame_number.calls (a0 : Int) (r1 : Bool) (r2 : Int) (r3 : ByteArray) (w : World) (h : frame_number.f a0 = some (r1, r2, r3)) :
    Calls Try.prog 45 #[.int .u64 a0] w fun e w' => e = .returned (.agg #[.bool r1, .int .u64 r2, .string r3]) ∧ Below w.heap.size w w' := by
  have hu67 := Try.underlying67
  have HB := Aside0.mk (Below.refl w.heap.size w)
  have H : (some (false, a0, (⟨#[]⟩ : ByteArray))) = some (r1, r2, r3) := h
  clear h
  simp only [Option.some.injEq, Prod.mk.injEq] at H
  obtain ⟨rfl, rfl, rfl⟩ := H
  go_enter Try.func45, Try.ntmps45
  go_wp2_with (first | ((with_reducible refine gate_dst (N := 2) rfl ?_); refine box_event ?hg (N := 2) ?hd (cs := #[.bool false, .int .u64 0, .string (⟨#[]⟩ : ByteArray)]) (t := 67) ?hr ?_; (case hd => rfl); (case hg => rfl); (case hr => first | (go_simp; done) | (go_simp; rfl)); intro gb112 hg w2 hbox hb; have n0_ := Aside0.mk (below_step (by repeat (first | (with_reducible first | exact HB.out | apply below_alloc | apply pw_below_drewN | apply below_drew1) | exact HB.out)) hb); have n1_ := Aside0.mk (hbox); have n2_ := Aside0.mk ((by rw [hg]; exact (below_size (by repeat (first | (with_reducible first | exact HB.out | apply below_alloc | apply pw_below_drewN | apply below_drew1) | exact HB.out))) : w.heap.size ≤ gb112)); have n3_ := Aside0.mk ((by rw [hg]; exact (below_size (by repeat (first | (with_reducible first | exact HB.out | apply below_alloc | apply pw_below_drewN | apply below_drew1) | exact HB.out))) : w.heap.size ≤ gb112)); clear HB; have HB := n0_; have BK112 := n1_; have GW112 := n2_; have GE112 := n3_; clear n0_ n1_ n2_ n3_; clear hb hbox hg; have hcz3_0 : w2.cell? ⟨gb112, 0, none⟩ = some (.bool false) := (blk_cell BK112.out 0).trans rfl; have hcz3_1 : w2.cell? ⟨gb112, 1, none⟩ = some (.int .u64 0) := (blk_cell BK112.out 1).trans rfl; have hcz3_2 : w2.cell? ⟨gb112, 2, none⟩ = some (.string (⟨#[]⟩ : ByteArray)) := (blk_cell BK112.out 2).trans rfl; have hfz3_0 := blk_frozen BK112.out 0; have hfz3_1 := blk_frozen BK112.out 1; have hfz3_2 := blk_frozen BK112.out 2))
  refine bodyPost_ret (results_cell_row rfl _ _ gb112 67 #[.bool false, .int .u64 a0, .string (⟨#[]⟩ : ByteArray)] (0, 0) _ rfl (by (with_reducible repeat (first | refine blk_drewN ?_ _ | refine blk_drew ?_ | refine blk_alloc ?_ _)); refine blk_put (cs := #[.bool false, .int .u64 a0, .string (⟨#[]⟩ : ByteArray)]) ?_ 2 _ rfl; (with_reducible repeat (first | refine blk_drewN ?_ _ | refine blk_drew ?_ | refine blk_alloc ?_ _)); refine blk_put (cs := #[.bool false, .int .u64 0, .string (⟨#[]⟩ : ByteArray)]) ?_ 1 _ rfl; (with_reducible repeat (first | refine blk_drewN ?_ _ | refine blk_drew ?_ | refine blk_alloc ?_ _)); refine blk_put (cs := #[.bool false, .int .u64 0, .string (⟨#[]⟩ : ByteArray)]) ?_ 0 _ rfl; (with_reducible repeat (first | refine blk_drewN ?_ _ | refine blk_drew ?_ | refine blk_alloc ?_ _)); exact BK112.out) Try.underlying67 rfl (by kernel_rfl)) rfl ?_
  exact ⟨by first | rfl | (simp [errW_none, errW_some] <;> rfl) | (simp [*, errW_none, errW_some] <;> rfl), by repeat (first | (with_reducible first | exact HB.out | apply below_alloc | apply pw_below_drewN | apply below_drew1 | refine below_set ?_ GE112.out) | exact HB.out)⟩

/-! ### frame_head: function 25 -/
def frame_head.j0 : Nat → List (S67) → Int → Int → Int → Int → ByteArray → ByteArray → Int → Int → ByteArray → Int → Int → ByteArray → List ByteArray → Option ((List (S67)))
  | 0, _, _, _, _, _, _, _, _, _, _, _, _, _, _ => none
  | k + 1, x3, x114000, x114001, x114002, x114003, x114004, x114005, x114006, x114007, x114008, x114009, x114010, x114011, x114012 => if x114000 = 2 then (some x3) else ((frame_text.f x114008).bind fun bt147 => ((frame_number.f x114009).bind fun bt150 => ((frame_number.f x114010).bind fun bt153 => ((some (([(⟨bt147.1, bt147.2.1, bt147.2.2⟩ : S67), (⟨bt150.1, bt150.2.1, bt150.2.2⟩ : S67), (⟨bt153.1, bt153.2.1, bt153.2.2⟩ : S67)] : List (S67)) : List (S67))).bind fun y156 => (if x3.length + y156.length < 4398046511104 then (some (x3 ++ y156)) else (none))))))
def frame_head.f (k : Nat) (a0_0 : Int) (a0_1 : Int) (a0_2 : Int) (a0_3 : Int) (a0_4 : ByteArray) (a0_5 : ByteArray) (a0_6 : Int) (a0_7 : Int) (a0_8 : ByteArray) (a0_9 : Int) (a0_10 : Int) (a0_11 : ByteArray) (l0_12 : List ByteArray) : Option ((List (S67))) := (frame_number.f (IntKind.u64.wrap (a0_0))).bind fun bt114 => ((frame_number.f a0_1).bind fun bt117 => ((frame_number.f a0_2).bind fun bt120 => ((frame_number.f a0_3).bind fun bt123 => ((some (([(⟨bt114.1, bt114.2.1, bt114.2.2⟩ : S67), (⟨bt117.1, bt117.2.1, bt117.2.2⟩ : S67), (⟨bt120.1, bt120.2.1, bt120.2.2⟩ : S67), (⟨bt123.1, bt123.2.1, bt123.2.2⟩ : S67)] : List (S67)) : List (S67))).bind fun y126 => (if a0_0 = 0 then ((frame_text.f a0_4).bind fun bt129 => ((frame_text.f a0_5).bind fun bt132 => ((frame_number.f a0_6).bind fun bt135 => ((frame_number.f a0_7).bind fun bt138 => ((some (([(⟨bt129.1, bt129.2.1, bt129.2.2⟩ : S67), (⟨bt132.1, bt132.2.1, bt132.2.2⟩ : S67), (⟨bt135.1, bt135.2.1, bt135.2.2⟩ : S67), (⟨bt138.1, bt138.2.1, bt138.2.2⟩ : S67)] : List (S67)) : List (S67))).bind fun y141 => (if y126.length + y141.length < 4398046511104 then (frame_head.j0 k (y126 ++ y141) a0_0 a0_1 a0_2 a0_3 a0_4 a0_5 a0_6 a0_7 a0_8 a0_9 a0_10 a0_11 l0_12) else (none))))))) else (frame_head.j0 k y126 a0_0 a0_1 a0_2 a0_3 a0_4 a0_5 a0_6 a0_7 a0_8 a0_9 a0_10 a0_11 l0_12))))))
theorem frame_head.mono_l : ∀ k, (∀ y0 y1 y2 y3 y4 y5 y6 y7 y8 y9 y10 y11 y12 y13, LeO (frame_head.j0 k y0 y1 y2 y3 y4 y5 y6 y7 y8 y9 y10 y11 y12 y13) (frame_head.j0 (k + 1) y0 y1 y2 y3 y4 y5 y6 y7 y8 y9 y10 y11 y12 y13))
  | 0 => fun _ _ _ _ _ _ _ _ _ _ _ _ _ _ r h => by simp [frame_head.j0] at h
  | k + 1 => by
    have ih0 := frame_head.mono_l k
    · intro y0 y1 y2 y3 y4 y5 y6 y7 y8 y9 y10 y11 y12 y13
      unfold frame_head.j0
      repeat' first
      | (with_reducible exact ih0 _ _ _ _ _ _ _ _ _ _ _ _ _ _)
      | (with_reducible exact LeO.refl _)
      | (with_reducible exact LeO.none _)
      | (with_reducible refine LeO.ite ?_ ?_)
      | (with_reducible refine LeO.bind ?_ (fun _ => ?_))
      | exact ih0 _ _ _ _ _ _ _ _ _ _ _ _ _ _
      | exact LeO.none _
      | refine LeO.ite ?_ ?_
      | refine LeO.bind ?_ (fun _ => ?_)
theorem frame_head.mono : ∀ a0 a1 a2 a3 a4 a5 a6 a7 a8 a9 a10 a11 a12 k, LeO (frame_head.f k a0 a1 a2 a3 a4 a5 a6 a7 a8 a9 a10 a11 a12) (frame_head.f (k + 1) a0 a1 a2 a3 a4 a5 a6 a7 a8 a9 a10 a11 a12) := by
  intro a0 a1 a2 a3 a4 a5 a6 a7 a8 a9 a10 a11 a12 k
  have ih0 := frame_head.mono_l k
  unfold frame_head.f
  repeat' first
      | (with_reducible exact ih0 _ _ _ _ _ _ _ _ _ _ _ _ _ _)
      | (with_reducible exact LeO.refl _)
      | (with_reducible exact LeO.none _)
      | (with_reducible refine LeO.ite ?_ ?_)
      | (with_reducible refine LeO.bind ?_ (fun _ => ?_))
      | exact ih0 _ _ _ _ _ _ _ _ _ _ _ _ _ _
      | exact LeO.none _
      | refine LeO.ite ?_ ?_
      | refine LeO.bind ?_ (fun _ => ?_)
def frame_head.T1 : Bool × List (List Nat × List Nat) := (true, [([], []), ([0], [0]), ([1], [1]), ([2], [2]), ([], []), ([4], [4]), ([5, 3], [5]), ([], []), ([7], [7]), ([8, 6], [8]), ([], []), ([10], [10]), ([11, 9], [11]), ([3, 6, 9, 12], [3, 6, 9, 12]), ([13, 12, 0, 1, 2, 3, 4, 5, 6, 7, 8, 9, 10, 11, 12, 13], [13])])
def frame_head.B1 : List Nat := [0, 1, 3, 7, 0, 16, 63, 0, 128, 511, 0, 1024, 4095, 8191, 16383]
theorem frame_head.tab1 : rtab .any (opsOf Try.f25 1) = frame_head.T1 := by kernel_rfl
theorem frame_head.bits1 : waitsOk frame_head.T1.2 frame_head.B1 = true := by kernel_rfl
def frame_head.T3 : Bool × List (List Nat × List Nat) := (true, [([], []), ([], []), ([1], [1]), ([2], [2]), ([], []), ([4], [4]), ([5, 3], [5]), ([], []), ([7], [7]), ([8, 6], [8]), ([], []), ([10], [10]), ([11, 9], [11]), ([3, 6, 9, 12], [3, 6, 9, 12]), ([0, 13, 12], [0, 13]), ([14, 14, 0, 1, 2, 3, 4, 5, 6, 7, 8, 9, 10, 11, 12, 13, 14], [0, 14])])
def frame_head.B3 : List Nat := [0, 0, 2, 6, 0, 16, 62, 0, 128, 510, 0, 1024, 4094, 8190, 16383, 32767]
theorem frame_head.tab3 : rtab .any (opsOf Try.f25 3) = frame_head.T3 := by kernel_rfl
theorem frame_head.bits3 : waitsOk frame_head.T3.2 frame_head.B3 = true := by kernel_rfl
def frame_head.T5 : Bool × List (List Nat × List Nat) := (true, [([], []), ([], []), ([1], [1]), ([2], [2]), ([], []), ([4], [4]), ([5, 3], [5]), ([], []), ([7], [7]), ([8, 6], [8]), ([3, 6, 9], [3, 6, 9]), ([0, 10, 9], [0, 10]), ([11, 11, 0, 1, 2, 3, 4, 5, 6, 7, 8, 9, 10, 11], [0, 11])])
def frame_head.B5 : List Nat := [0, 0, 2, 6, 0, 16, 62, 0, 128, 510, 1022, 2047, 4095]
theorem frame_head.tab5 : rtab .any (opsOf Try.f25 5) = frame_head.T5 := by kernel_rfl
theorem frame_head.bits5 : waitsOk frame_head.T5.2 frame_head.B5 = true := by kernel_rfl
set_option maxHeartbeats 8000000 in
set_option maxRecDepth 100000 in
theorem frame_head.calls (k : Nat) (a0_0 : Int) (a0_1 : Int) (a0_2 : Int) (a0_3 : Int) (a0_4 : ByteArray) (a0_5 : ByteArray) (a0_6 : Int) (a0_7 : Int) (a0_8 : ByteArray) (a0_9 : Int) (a0_10 : Int) (a0_11 : ByteArray) (A0_12 : Option Addr) (c0_12 : Nat) (l0_12 : List ByteArray) (r : List (S67)) (w : World) (hr0_12 : Kd.C Kd.string w A0_12 l0_12.length l0_12) (hc0_12 : l0_12.length ≤ c0_12) (h : frame_head.f k a0_0 a0_1 a0_2 a0_3 a0_4 a0_5 a0_6 a0_7 a0_8 a0_9 a0_10 a0_11 l0_12 = some r) :
    Calls Try.prog 25 #[.agg #[.int .i64 a0_0, .int .u64 a0_1, .int .u64 a0_2, .int .u64 a0_3, .string a0_4, .string a0_5, .int .u64 a0_6, .int .u64 a0_7, .string a0_8, .int .u64 a0_9, .int .u64 a0_10, .string a0_11, .slice A0_12 l0_12.length c0_12]] w fun e w' => ∃ v0_ : Value, e = .returned (v0_) ∧ Kd.R k67 67 w' w.heap.size (fun _ => True) v0_ r ∧ Below w.heap.size w w' := by
  have hu25 := Try.underlying25
  have HR0_12 := Aside0.mk hr0_12
  have HC0_12 := Aside0.mk hc0_12
  clear hr0_12 hc0_12
  have HB := Aside0.mk (Below.refl w.heap.size w)
  have H : ((frame_number.f (IntKind.u64.wrap (a0_0))).bind fun bt114 => ((frame_number.f a0_1).bind fun bt117 => ((frame_number.f a0_2).bind fun bt120 => ((frame_number.f a0_3).bind fun bt123 => ((some (([(⟨bt114.1, bt114.2.1, bt114.2.2⟩ : S67), (⟨bt117.1, bt117.2.1, bt117.2.2⟩ : S67), (⟨bt120.1, bt120.2.1, bt120.2.2⟩ : S67), (⟨bt123.1, bt123.2.1, bt123.2.2⟩ : S67)] : List (S67)) : List (S67))).bind fun y126 => (if a0_0 = 0 then ((frame_text.f a0_4).bind fun bt129 => ((frame_text.f a0_5).bind fun bt132 => ((frame_number.f a0_6).bind fun bt135 => ((frame_number.f a0_7).bind fun bt138 => ((some (([(⟨bt129.1, bt129.2.1, bt129.2.2⟩ : S67), (⟨bt132.1, bt132.2.1, bt132.2.2⟩ : S67), (⟨bt135.1, bt135.2.1, bt135.2.2⟩ : S67), (⟨bt138.1, bt138.2.1, bt138.2.2⟩ : S67)] : List (S67)) : List (S67))).bind fun y141 => (if y126.length + y141.length < 4398046511104 then (frame_head.j0 k (y126 ++ y141) a0_0 a0_1 a0_2 a0_3 a0_4 a0_5 a0_6 a0_7 a0_8 a0_9 a0_10 a0_11 l0_12) else (none))))))) else (frame_head.j0 k y126 a0_0 a0_1 a0_2 a0_3 a0_4 a0_5 a0_6 a0_7 a0_8 a0_9 a0_10 a0_11 l0_12))))))) = some r := h
  clear h
  replace H := Option.bind_eq_some_iff.mp H
  obtain ⟨⟨t114, t115, t116⟩, A20, H⟩ := H
  replace H : ((frame_number.f a0_1).bind fun bt117 => ((frame_number.f a0_2).bind fun bt120 => ((frame_number.f a0_3).bind fun bt123 => ((some (([(⟨t114, t115, t116⟩ : S67), (⟨bt117.1, bt117.2.1, bt117.2.2⟩ : S67), (⟨bt120.1, bt120.2.1, bt120.2.2⟩ : S67), (⟨bt123.1, bt123.2.1, bt123.2.2⟩ : S67)] : List (S67)) : List (S67))).bind fun y126 => (if a0_0 = 0 then ((frame_text.f a0_4).bind fun bt129 => ((frame_text.f a0_5).bind fun bt132 => ((frame_number.f a0_6).bind fun bt135 => ((frame_number.f a0_7).bind fun bt138 => ((some (([(⟨bt129.1, bt129.2.1, bt129.2.2⟩ : S67), (⟨bt132.1, bt132.2.1, bt132.2.2⟩ : S67), (⟨bt135.1, bt135.2.1, bt135.2.2⟩ : S67), (⟨bt138.1, bt138.2.1, bt138.2.2⟩ : S67)] : List (S67)) : List (S67))).bind fun y141 => (if y126.length + y141.length < 4398046511104 then (frame_head.j0 k (y126 ++ y141) a0_0 a0_1 a0_2 a0_3 a0_4 a0_5 a0_6 a0_7 a0_8 a0_9 a0_10 a0_11 l0_12) else (none))))))) else (frame_head.j0 k y126 a0_0 a0_1 a0_2 a0_3 a0_4 a0_5 a0_6 a0_7 a0_8 a0_9 a0_10 a0_11 l0_12)))))) = some r := H
  have A2 := Aside0.mk A20
  clear A20
  replace H := Option.bind_eq_some_iff.mp H
  obtain ⟨⟨t117, t118, t119⟩, A30, H⟩ := H
  replace H : ((frame_number.f a0_2).bind fun bt120 => ((frame_number.f a0_3).bind fun bt123 => ((some (([(⟨t114, t115, t116⟩ : S67), (⟨t117, t118, t119⟩ : S67), (⟨bt120.1, bt120.2.1, bt120.2.2⟩ : S67), (⟨bt123.1, bt123.2.1, bt123.2.2⟩ : S67)] : List (S67)) : List (S67))).bind fun y126 => (if a0_0 = 0 then ((frame_text.f a0_4).bind fun bt129 => ((frame_text.f a0_5).bind fun bt132 => ((frame_number.f a0_6).bind fun bt135 => ((frame_number.f a0_7).bind fun bt138 => ((some (([(⟨bt129.1, bt129.2.1, bt129.2.2⟩ : S67), (⟨bt132.1, bt132.2.1, bt132.2.2⟩ : S67), (⟨bt135.1, bt135.2.1, bt135.2.2⟩ : S67), (⟨bt138.1, bt138.2.1, bt138.2.2⟩ : S67)] : List (S67)) : List (S67))).bind fun y141 => (if y126.length + y141.length < 4398046511104 then (frame_head.j0 k (y126 ++ y141) a0_0 a0_1 a0_2 a0_3 a0_4 a0_5 a0_6 a0_7 a0_8 a0_9 a0_10 a0_11 l0_12) else (none))))))) else (frame_head.j0 k y126 a0_0 a0_1 a0_2 a0_3 a0_4 a0_5 a0_6 a0_7 a0_8 a0_9 a0_10 a0_11 l0_12))))) = some r := H
  have A3 := Aside0.mk A30
  clear A30
  replace H := Option.bind_eq_some_iff.mp H
  obtain ⟨⟨t120, t121, t122⟩, A40, H⟩ := H
  replace H : ((frame_number.f a0_3).bind fun bt123 => ((some (([(⟨t114, t115, t116⟩ : S67), (⟨t117, t118, t119⟩ : S67), (⟨t120, t121, t122⟩ : S67), (⟨bt123.1, bt123.2.1, bt123.2.2⟩ : S67)] : List (S67)) : List (S67))).bind fun y126 => (if a0_0 = 0 then ((frame_text.f a0_4).bind fun bt129 => ((frame_text.f a0_5).bind fun bt132 => ((frame_number.f a0_6).bind fun bt135 => ((frame_number.f a0_7).bind fun bt138 => ((some (([(⟨bt129.1, bt129.2.1, bt129.2.2⟩ : S67), (⟨bt132.1, bt132.2.1, bt132.2.2⟩ : S67), (⟨bt135.1, bt135.2.1, bt135.2.2⟩ : S67), (⟨bt138.1, bt138.2.1, bt138.2.2⟩ : S67)] : List (S67)) : List (S67))).bind fun y141 => (if y126.length + y141.length < 4398046511104 then (frame_head.j0 k (y126 ++ y141) a0_0 a0_1 a0_2 a0_3 a0_4 a0_5 a0_6 a0_7 a0_8 a0_9 a0_10 a0_11 l0_12) else (none))))))) else (frame_head.j0 k y126 a0_0 a0_1 a0_2 a0_3 a0_4 a0_5 a0_6 a0_7 a0_8 a0_9 a0_10 a0_11 l0_12)))) = some r := H
  have A4 := Aside0.mk A40
  clear A40
  replace H := Option.bind_eq_some_iff.mp H
  obtain ⟨⟨t123, t124, t125⟩, A50, H⟩ := H
  replace H : ((some (([(⟨t114, t115, t116⟩ : S67), (⟨t117, t118, t119⟩ : S67), (⟨t120, t121, t122⟩ : S67), (⟨t123, t124, t125⟩ : S67)] : List (S67)) : List (S67))).bind fun y126 => (if a0_0 = 0 then ((frame_text.f a0_4).bind fun bt129 => ((frame_text.f a0_5).bind fun bt132 => ((frame_number.f a0_6).bind fun bt135 => ((frame_number.f a0_7).bind fun bt138 => ((some (([(⟨bt129.1, bt129.2.1, bt129.2.2⟩ : S67), (⟨bt132.1, bt132.2.1, bt132.2.2⟩ : S67), (⟨bt135.1, bt135.2.1, bt135.2.2⟩ : S67), (⟨bt138.1, bt138.2.1, bt138.2.2⟩ : S67)] : List (S67)) : List (S67))).bind fun y141 => (if y126.length + y141.length < 4398046511104 then (frame_head.j0 k (y126 ++ y141) a0_0 a0_1 a0_2 a0_3 a0_4 a0_5 a0_6 a0_7 a0_8 a0_9 a0_10 a0_11 l0_12) else (none))))))) else (frame_head.j0 k y126 a0_0 a0_1 a0_2 a0_3 a0_4 a0_5 a0_6 a0_7 a0_8 a0_9 a0_10 a0_11 l0_12))) = some r := H
  have A5 := Aside0.mk A50
  clear A50
  obtain ⟨y126, hy126⟩ : ∃ y_ : List (S67), y_ = (([(⟨t114, t115, t116⟩ : S67), (⟨t117, t118, t119⟩ : S67), (⟨t120, t121, t122⟩ : S67), (⟨t123, t124, t125⟩ : S67)] : List (S67))) := ⟨_, rfl⟩
  replace H : (if a0_0 = 0 then ((frame_text.f a0_4).bind fun bt129 => ((frame_text.f a0_5).bind fun bt132 => ((frame_number.f a0_6).bind fun bt135 => ((frame_number.f a0_7).bind fun bt138 => ((some (([(⟨bt129.1, bt129.2.1, bt129.2.2⟩ : S67), (⟨bt132.1, bt132.2.1, bt132.2.2⟩ : S67), (⟨bt135.1, bt135.2.1, bt135.2.2⟩ : S67), (⟨bt138.1, bt138.2.1, bt138.2.2⟩ : S67)] : List (S67)) : List (S67))).bind fun y141 => (if y126.length + y141.length < 4398046511104 then (frame_head.j0 k (y126 ++ y141) a0_0 a0_1 a0_2 a0_3 a0_4 a0_5 a0_6 a0_7 a0_8 a0_9 a0_10 a0_11 l0_12) else (none))))))) else (frame_head.j0 k y126 a0_0 a0_1 a0_2 a0_3 a0_4 a0_5 a0_6 a0_7 a0_8 a0_9 a0_10 a0_11 l0_12)) = some r := by first | (rw [hy126]; with_reducible exact H) | (have H2_ := (Option.bind_some _ _).symm.trans H; rw [hy126]; with_reducible exact H2_) | (have H2_ := (Option.bind_some _ _).symm.trans H; with_reducible exact H2_) | with_reducible exact H | (rw [hy126]; exact H) | exact H
  have Ny126 := Aside0.mk hy126
  clear hy126
  have HC6 := Aside0.mk H
  clear H
  go_enter Try.func25, Try.ntmps25
  try go_wp2_with (first | ((with_reducible refine gate_dst (N := 1) rfl ?_); refine box_event ?hg (N := 1) ?hd (cs := #[.int .i64 a0_0, .int .u64 a0_1, .int .u64 a0_2, .int .u64 a0_3, .string a0_4, .string a0_5, .int .u64 a0_6, .int .u64 a0_7, .string a0_8, .int .u64 a0_9, .int .u64 a0_10, .string a0_11, .slice A0_12 l0_12.length c0_12]) (t := 25) ?hr ?_; (case hd => rfl); (case hg => rfl); (case hr => first | (go_simp; done) | (go_simp; rfl)); intro gb113 hg w7 hbox hb; have n0_ := Aside0.mk (below_step (by repeat (first | (with_reducible first | exact HB.out | apply below_alloc | apply pw_below_drewN | apply below_drew1) | exact HB.out)) hb); have n1_ := Aside0.mk (hbox); have n2_ := Aside0.mk ((by rw [hg]; exact (below_size (by repeat (first | (with_reducible first | exact HB.out | apply below_alloc | apply pw_below_drewN | apply below_drew1) | exact HB.out))) : w.heap.size ≤ gb113)); have n3_ := Aside0.mk ((by rw [hg]; exact (below_size (by repeat (first | (with_reducible first | exact HB.out | apply below_alloc | apply pw_below_drewN | apply below_drew1) | exact HB.out))) : w.heap.size ≤ gb113)); clear HB; have HB := n0_; have BK113 := n1_; have GW113 := n2_; have GE113 := n3_; clear n0_ n1_ n2_ n3_; clear hb hbox hg))
  have n0_ := Aside0.mk (blk_drew BK113.out)
  have n1_ := Aside0.mk (below_drew1 HB.out)
  clear BK113
  clear HB
  have BK113 := n0_
  have HB := n1_
  clear n0_ n1_
  refine start_ (n := 15) (S := fun w' => w'.cell? ⟨gb113, 0, none⟩ = some (.int .i64 a0_0) ∧ w'.cell? ⟨gb113, 1, none⟩ = some (.int .u64 a0_1) ∧ w'.cell? ⟨gb113, 2, none⟩ = some (.int .u64 a0_2) ∧ w'.cell? ⟨gb113, 3, none⟩ = some (.int .u64 a0_3) ∧ w'.cell? ⟨gb113, 4, none⟩ = some (.string a0_4) ∧ w'.cell? ⟨gb113, 5, none⟩ = some (.string a0_5) ∧ w'.cell? ⟨gb113, 6, none⟩ = some (.int .u64 a0_6) ∧ w'.cell? ⟨gb113, 7, none⟩ = some (.int .u64 a0_7) ∧ w'.cell? ⟨gb113, 8, none⟩ = some (.string a0_8) ∧ w'.cell? ⟨gb113, 9, none⟩ = some (.int .u64 a0_9) ∧ w'.cell? ⟨gb113, 10, none⟩ = some (.int .u64 a0_10) ∧ w'.cell? ⟨gb113, 11, none⟩ = some (.string a0_11) ∧ w'.cell? ⟨gb113, 12, none⟩ = some (.slice A0_12 l0_12.length c0_12)) (ds := []) #[false, false, false, false, false, false, false, false, false, false, false, false, false, false, false] (by kernel_rfl) rfl rfl ⟨(blk_cell BK113.out 0).trans rfl, (blk_cell BK113.out 1).trans rfl, (blk_cell BK113.out 2).trans rfl, (blk_cell BK113.out 3).trans rfl, (blk_cell BK113.out 4).trans rfl, (blk_cell BK113.out 5).trans rfl, (blk_cell BK113.out 6).trans rfl, (blk_cell BK113.out 7).trans rfl, (blk_cell BK113.out 8).trans rfl, (blk_cell BK113.out 9).trans rfl, (blk_cell BK113.out 10).trans rfl, (blk_cell BK113.out 11).trans rfl, (blk_cell BK113.out 12).trans rfl⟩ (fun hHeld => ?_); refine with_tabW frame_head.tab1 frame_head.bits1 (fun HT_ HW_ => ?_)
  generalize w7.drew = w8 at BK113 HB hHeld ⊢
  refine pure_ (i := 0) (N := some 4) (v := ?_) (a' := ?_) #[true, false, false, false, false, false, false, false, false, false, false, false, false, false, false] rfl rfl (any_of HT_.out (by kernel_rfl)) (fun _ _ _ h => h) (Or.inl ⟨by rfl, ?_⟩) ?_ ?_
  rotate_left
  · intro w'
    go_simp
    with_reducible rfl
  rotate_left
  · simp only [Act.put, List.setIfInBounds_toArray, List.set_cons_zero, List.set_cons_succ, i64_w, i32_w]
    rfl
  refine pure_ (i := 4) (N := some 8) (v := ?_) (a' := ?_) #[true, false, false, false, true, false, false, false, false, false, false, false, false, false, false] rfl rfl (any_of HT_.out (by kernel_rfl)) (fun _ _ _ h => h) (Or.inl ⟨by rfl, ?_⟩) ?_ ?_
  rotate_left
  · intro w'
    go_simp
    with_reducible rfl
  rotate_left
  · simp only [Act.put, List.setIfInBounds_toArray, List.set_cons_zero, List.set_cons_succ, i64_w, i32_w]
    rfl
  refine pure_ (i := 7) (N := some 11) (v := ?_) (a' := ?_) #[true, false, false, false, true, false, false, true, false, false, false, false, false, false, false] rfl rfl (any_of HT_.out (by kernel_rfl)) (fun _ _ _ h => h) (Or.inl ⟨by rfl, ?_⟩) ?_ ?_
  rotate_left
  · intro w'
    go_simp
    with_reducible rfl
  rotate_left
  · simp only [Act.put, List.setIfInBounds_toArray, List.set_cons_zero, List.set_cons_succ, i64_w, i32_w]
    rfl
  refine pure_ (i := 10) (N := some 14) (v := ?_) (a' := ?_) #[true, false, false, false, true, false, false, true, false, false, true, false, false, false, false] rfl rfl (any_of HT_.out (by kernel_rfl)) (fun _ _ _ h => h) (Or.inl ⟨by rfl, ?_⟩) ?_ ?_
  rotate_left
  · intro w'
    go_simp
    with_reducible rfl
  rotate_left
  · simp only [Act.put, List.setIfInBounds_toArray, List.set_cons_zero, List.set_cons_succ, i64_w, i32_w]
    rfl
  refine take_ (i := 1) (N := some 5) (v := ?_) (a' := ?_) #[true, true, false, false, true, false, false, true, false, false, true, false, false, false, false] rfl rfl (take_ofW HT_.out HW_.out (by kernel_rfl)) (fun _ _ _ h => h) (Or.inl ⟨by rfl, ?_⟩) hHeld ?_ ?_
  rotate_left
  · rintro w' ⟨s0, s1, s2, s3, s4, s5, s6, s7, s8, s9, s10, s11, s12⟩
    go_simp
    with_reducible rfl
  rotate_left
  · simp only [Act.put, List.setIfInBounds_toArray, List.set_cons_zero, List.set_cons_succ, i64_w, i32_w]
    rfl
  refine pure_ (i := 2) (N := some 6) (v := ?_) (a' := ?_) #[true, true, true, false, true, false, false, true, false, false, true, false, false, false, false] rfl rfl (any_of HT_.out (by kernel_rfl)) (fun _ _ _ h => h) (Or.inl ⟨by rfl, ?_⟩) ?_ ?_
  rotate_left
  · intro w'
    go_simp
    with_reducible rfl
  rotate_left
  · simp only [Act.put, List.setIfInBounds_toArray, List.set_cons_zero, List.set_cons_succ, i64_w, i32_w]
    rfl
  refine take_ (i := 5) (N := some 9) (v := ?_) (a' := ?_) #[true, true, true, false, true, true, false, true, false, false, true, false, false, false, false] rfl rfl (take_ofW HT_.out HW_.out (by kernel_rfl)) (fun _ _ _ h => h) (Or.inl ⟨by rfl, ?_⟩) hHeld ?_ ?_
  rotate_left
  · rintro w' ⟨s0, s1, s2, s3, s4, s5, s6, s7, s8, s9, s10, s11, s12⟩
    go_simp
    with_reducible rfl
  rotate_left
  · simp only [Act.put, List.setIfInBounds_toArray, List.set_cons_zero, List.set_cons_succ, i64_w, i32_w]
    rfl
  refine take_ (i := 8) (N := some 12) (v := ?_) (a' := ?_) #[true, true, true, false, true, true, false, true, true, false, true, false, false, false, false] rfl rfl (take_ofW HT_.out HW_.out (by kernel_rfl)) (fun _ _ _ h => h) (Or.inl ⟨by rfl, ?_⟩) hHeld ?_ ?_
  rotate_left
  · rintro w' ⟨s0, s1, s2, s3, s4, s5, s6, s7, s8, s9, s10, s11, s12⟩
    go_simp
    with_reducible rfl
  rotate_left
  · simp only [Act.put, List.setIfInBounds_toArray, List.set_cons_zero, List.set_cons_succ, i64_w, i32_w]
    rfl
  refine take_ (i := 11) (N := some 15) (v := ?_) (a' := ?_) #[true, true, true, false, true, true, false, true, true, false, true, true, false, false, false] rfl rfl (take_ofW HT_.out HW_.out (by kernel_rfl)) (fun _ _ _ h => h) (Or.inl ⟨by rfl, ?_⟩) hHeld ?_ ?_
  rotate_left
  · rintro w' ⟨s0, s1, s2, s3, s4, s5, s6, s7, s8, s9, s10, s11, s12⟩
    go_simp
    with_reducible rfl
  rotate_left
  · simp only [Act.put, List.setIfInBounds_toArray, List.set_cons_zero, List.set_cons_succ, i64_w, i32_w]
    rfl
  refine one_ (i := 3) (N := some 7) #[true, true, true, true, true, true, false, true, true, false, true, true, false, false, false] rfl rfl (one_of HT_.out (by kernel_rfl)) (by decide) (fun K hK => ?_)
  refine goes_ Try.func45 (by kernel_rfl) rfl #[.int .u64 (IntKind.u64.wrap (a0_0))] (by rfl) rfl rfl (by (try simp only [List.map_toArray, List.map_cons, List.map_nil]); first | done | rfl | (simp only [List.length_drop, List.length_take]; rfl)) ?_
  with_reducible refine (frame_number.calls (IntKind.u64.wrap (a0_0)) t114 t115 t116 _ A2.out).mono ?_
  rintro e w9 ⟨rfl, hb⟩
  refine ⟨_, rfl, ?_⟩
  have n0_ := Aside0.mk (blk_below (g := gb113) (o := .cells #[.int .i64 a0_0, .int .u64 a0_1, .int .u64 a0_2, .int .u64 a0_3, .string a0_4, .string a0_5, .int .u64 a0_6, .int .u64 a0_7, .string a0_8, .int .u64 a0_9, .int .u64 a0_10, .string a0_11, .slice A0_12 l0_12.length c0_12] 25 (0, 0)) (by (with_reducible repeat (first | refine blk_drewN ?_ _ | refine blk_drew ?_ | refine blk_alloc ?_ _)); exact BK113.out) hb)
  have n1_ := Aside0.mk (below_step (by repeat (first | (with_reducible first | exact HB.out | apply below_alloc | apply pw_below_drewN | apply below_drew1 | refine below_set ?_ GE113.out) | exact HB.out)) hb)
  clear BK113
  clear HB
  have BK113 := n0_
  have HB := n1_
  clear n0_ n1_
  (try clear hb)
  (try clear hb2)
  (try clear hk)
  (try clear hi)
  refine hK.out _ _ ⟨(blk_cell BK113.out 0).trans rfl, (blk_cell BK113.out 1).trans rfl, (blk_cell BK113.out 2).trans rfl, (blk_cell BK113.out 3).trans rfl, (blk_cell BK113.out 4).trans rfl, (blk_cell BK113.out 5).trans rfl, (blk_cell BK113.out 6).trans rfl, (blk_cell BK113.out 7).trans rfl, (blk_cell BK113.out 8).trans rfl, (blk_cell BK113.out 9).trans rfl, (blk_cell BK113.out 10).trans rfl, (blk_cell BK113.out 11).trans rfl, (blk_cell BK113.out 12).trans rfl⟩ (fun hHeld => ?_)
  clear hK K
  refine norm_ (a' := ?_) ?_ ?_
  rotate_left
  · show Act.put _ (some 7) _ = _
    simp only [Act.put, List.setIfInBounds_toArray, List.set_cons_zero, List.set_cons_succ, i64_w, i32_w]
    rfl
  refine one_ (i := 6) (N := some 10) #[true, true, true, true, true, true, true, true, true, false, true, true, false, false, false] rfl rfl (one_of HT_.out (by kernel_rfl)) (by decide) (fun K hK => ?_)
  refine goes_ Try.func45 (by kernel_rfl) rfl #[.int .u64 a0_1] (by rfl) rfl rfl (by (try simp only [List.map_toArray, List.map_cons, List.map_nil]); first | done | rfl | (simp only [List.length_drop, List.length_take]; rfl)) ?_
  with_reducible refine (frame_number.calls a0_1 t117 t118 t119 _ A3.out).mono ?_
  rintro e w10 ⟨rfl, hb⟩
  refine ⟨_, rfl, ?_⟩
  have n0_ := Aside0.mk (blk_below (g := gb113) (o := .cells #[.int .i64 a0_0, .int .u64 a0_1, .int .u64 a0_2, .int .u64 a0_3, .string a0_4, .string a0_5, .int .u64 a0_6, .int .u64 a0_7, .string a0_8, .int .u64 a0_9, .int .u64 a0_10, .string a0_11, .slice A0_12 l0_12.length c0_12] 25 (0, 0)) (by (with_reducible repeat (first | refine blk_drewN ?_ _ | refine blk_drew ?_ | refine blk_alloc ?_ _)); exact BK113.out) hb)
  have n1_ := Aside0.mk (below_step (by repeat (first | (with_reducible first | exact HB.out | apply below_alloc | apply pw_below_drewN | apply below_drew1 | refine below_set ?_ GE113.out) | exact HB.out)) hb)
  clear BK113
  clear HB
  have BK113 := n0_
  have HB := n1_
  clear n0_ n1_
  (try clear hb)
  (try clear hb2)
  (try clear hk)
  (try clear hi)
  refine hK.out _ _ ⟨(blk_cell BK113.out 0).trans rfl, (blk_cell BK113.out 1).trans rfl, (blk_cell BK113.out 2).trans rfl, (blk_cell BK113.out 3).trans rfl, (blk_cell BK113.out 4).trans rfl, (blk_cell BK113.out 5).trans rfl, (blk_cell BK113.out 6).trans rfl, (blk_cell BK113.out 7).trans rfl, (blk_cell BK113.out 8).trans rfl, (blk_cell BK113.out 9).trans rfl, (blk_cell BK113.out 10).trans rfl, (blk_cell BK113.out 11).trans rfl, (blk_cell BK113.out 12).trans rfl⟩ (fun hHeld => ?_)
  clear hK K
  refine norm_ (a' := ?_) ?_ ?_
  rotate_left
  · show Act.put _ (some 10) _ = _
    simp only [Act.put, List.setIfInBounds_toArray, List.set_cons_zero, List.set_cons_succ, i64_w, i32_w]
    rfl
  refine one_ (i := 9) (N := some 13) #[true, true, true, true, true, true, true, true, true, true, true, true, false, false, false] rfl rfl (one_of HT_.out (by kernel_rfl)) (by decide) (fun K hK => ?_)
  refine goes_ Try.func45 (by kernel_rfl) rfl #[.int .u64 a0_2] (by rfl) rfl rfl (by (try simp only [List.map_toArray, List.map_cons, List.map_nil]); first | done | rfl | (simp only [List.length_drop, List.length_take]; rfl)) ?_
  with_reducible refine (frame_number.calls a0_2 t120 t121 t122 _ A4.out).mono ?_
  rintro e w11 ⟨rfl, hb⟩
  refine ⟨_, rfl, ?_⟩
  have n0_ := Aside0.mk (blk_below (g := gb113) (o := .cells #[.int .i64 a0_0, .int .u64 a0_1, .int .u64 a0_2, .int .u64 a0_3, .string a0_4, .string a0_5, .int .u64 a0_6, .int .u64 a0_7, .string a0_8, .int .u64 a0_9, .int .u64 a0_10, .string a0_11, .slice A0_12 l0_12.length c0_12] 25 (0, 0)) (by (with_reducible repeat (first | refine blk_drewN ?_ _ | refine blk_drew ?_ | refine blk_alloc ?_ _)); exact BK113.out) hb)
  have n1_ := Aside0.mk (below_step (by repeat (first | (with_reducible first | exact HB.out | apply below_alloc | apply pw_below_drewN | apply below_drew1 | refine below_set ?_ GE113.out) | exact HB.out)) hb)
  clear BK113
  clear HB
  have BK113 := n0_
  have HB := n1_
  clear n0_ n1_
  (try clear hb)
  (try clear hb2)
  (try clear hk)
  (try clear hi)
  refine hK.out _ _ ⟨(blk_cell BK113.out 0).trans rfl, (blk_cell BK113.out 1).trans rfl, (blk_cell BK113.out 2).trans rfl, (blk_cell BK113.out 3).trans rfl, (blk_cell BK113.out 4).trans rfl, (blk_cell BK113.out 5).trans rfl, (blk_cell BK113.out 6).trans rfl, (blk_cell BK113.out 7).trans rfl, (blk_cell BK113.out 8).trans rfl, (blk_cell BK113.out 9).trans rfl, (blk_cell BK113.out 10).trans rfl, (blk_cell BK113.out 11).trans rfl, (blk_cell BK113.out 12).trans rfl⟩ (fun hHeld => ?_)
  clear hK K
  refine norm_ (a' := ?_) ?_ ?_
  rotate_left
  · show Act.put _ (some 13) _ = _
    simp only [Act.put, List.setIfInBounds_toArray, List.set_cons_zero, List.set_cons_succ, i64_w, i32_w]
    rfl
  refine one_ (i := 12) (N := some 16) #[true, true, true, true, true, true, true, true, true, true, true, true, true, false, false] rfl rfl (one_of HT_.out (by kernel_rfl)) (by decide) (fun K hK => ?_)
  refine goes_ Try.func45 (by kernel_rfl) rfl #[.int .u64 a0_3] (by rfl) rfl rfl (by (try simp only [List.map_toArray, List.map_cons, List.map_nil]); first | done | rfl | (simp only [List.length_drop, List.length_take]; rfl)) ?_
  with_reducible refine (frame_number.calls a0_3 t123 t124 t125 _ A5.out).mono ?_
  rintro e w12 ⟨rfl, hb⟩
  refine ⟨_, rfl, ?_⟩
  have n0_ := Aside0.mk (blk_below (g := gb113) (o := .cells #[.int .i64 a0_0, .int .u64 a0_1, .int .u64 a0_2, .int .u64 a0_3, .string a0_4, .string a0_5, .int .u64 a0_6, .int .u64 a0_7, .string a0_8, .int .u64 a0_9, .int .u64 a0_10, .string a0_11, .slice A0_12 l0_12.length c0_12] 25 (0, 0)) (by (with_reducible repeat (first | refine blk_drewN ?_ _ | refine blk_drew ?_ | refine blk_alloc ?_ _)); exact BK113.out) hb)
  have n1_ := Aside0.mk (below_step (by repeat (first | (with_reducible first | exact HB.out | apply below_alloc | apply pw_below_drewN | apply below_drew1 | refine below_set ?_ GE113.out) | exact HB.out)) hb)
  clear BK113
  clear HB
  have BK113 := n0_
  have HB := n1_
  clear n0_ n1_
  (try clear hb)
  (try clear hb2)
  (try clear hk)
  (try clear hi)
  refine hK.out _ _ ⟨(blk_cell BK113.out 0).trans rfl, (blk_cell BK113.out 1).trans rfl, (blk_cell BK113.out 2).trans rfl, (blk_cell BK113.out 3).trans rfl, (blk_cell BK113.out 4).trans rfl, (blk_cell BK113.out 5).trans rfl, (blk_cell BK113.out 6).trans rfl, (blk_cell BK113.out 7).trans rfl, (blk_cell BK113.out 8).trans rfl, (blk_cell BK113.out 9).trans rfl, (blk_cell BK113.out 10).trans rfl, (blk_cell BK113.out 11).trans rfl, (blk_cell BK113.out 12).trans rfl⟩ (fun hHeld => ?_)
  clear hK K
  refine norm_ (a' := ?_) ?_ ?_
  rotate_left
  · show Act.put _ (some 16) _ = _
    simp only [Act.put, List.setIfInBounds_toArray, List.set_cons_zero, List.set_cons_succ, i64_w, i32_w]
    rfl
  refine one_ (i := 13) (N := some 17) #[true, true, true, true, true, true, true, true, true, true, true, true, true, true, false] rfl rfl (one_of HT_.out (by kernel_rfl)) (by decide) (fun K hK => ?_)
  refine Kd.R_lit_step k67 _ 67 ?hg (N := 17) ?hd (xs := ([(⟨t114, t115, t116⟩ : S67), (⟨t117, t118, t119⟩ : S67), (⟨t120, t121, t122⟩ : S67), (⟨t123, t124, t125⟩ : S67)] : List (S67))) (inner := [.bool t114, .int .u64 t115, .string t116, .bool t117, .int .u64 t118, .string t119, .bool t120, .int .u64 t121, .string t122, .bool t123, .int .u64 t124, .string t125]) (ok := fun _ => True) (okp := fun _ => True) ?hr ?hp (fun _ hk => hk) trivial (Below.refl _ _) (Nat.le_refl _) (by simp) ?_; (case hd => rfl); (case hg => rfl); (case hr => first | (go_simp; done) | (go_simp; rfl)); (case hp => exact (Reps.c3 (show Kd.M k67 _ _ _ (⟨t114, t115, t116⟩ : S67) [.bool t114, .int .u64 t115, .string t116] from (k67_mkM _ _ _ (⟨t114, t115, t116⟩ : S67) )) (Reps.c3 (show Kd.M k67 _ _ _ (⟨t117, t118, t119⟩ : S67) [.bool t117, .int .u64 t118, .string t119] from (k67_mkM _ _ _ (⟨t117, t118, t119⟩ : S67) )) (Reps.c3 (show Kd.M k67 _ _ _ (⟨t120, t121, t122⟩ : S67) [.bool t120, .int .u64 t121, .string t122] from (k67_mkM _ _ _ (⟨t120, t121, t122⟩ : S67) )) (Reps.c3 (show Kd.M k67 _ _ _ (⟨t123, t124, t125⟩ : S67) [.bool t123, .int .u64 t124, .string t125] from (k67_mkM _ _ _ (⟨t123, t124, t125⟩ : S67) )) (Reps.none _ _))))))
  intro v127 w13 ho14 hb hg_ hnew_
  clear hg_ hnew_
  (first | rw [← Ny126.out] at ho14 | (simp only [Int.reduceToNat] at ho14; rw [← Ny126.out] at ho14))
  have n0_ := Aside0.mk (Kd.R_lower ho14 (below_size (by repeat (first | (with_reducible first | exact HB.out | apply below_alloc | apply pw_below_drewN | apply below_drew1 | refine below_set ?_ GE113.out) | exact HB.out))))
  have n1_ := Aside0.mk (blk_below (g := gb113) (o := .cells #[.int .i64 a0_0, .int .u64 a0_1, .int .u64 a0_2, .int .u64 a0_3, .string a0_4, .string a0_5, .int .u64 a0_6, .int .u64 a0_7, .string a0_8, .int .u64 a0_9, .int .u64 a0_10, .string a0_11, .slice A0_12 l0_12.length c0_12] 25 (0, 0)) (by (with_reducible repeat (first | refine blk_drewN ?_ _ | refine blk_drew ?_ | refine blk_alloc ?_ _)); exact BK113.out) hb)
  have n2_ := Aside0.mk (below_step (by repeat (first | (with_reducible first | exact HB.out | apply below_alloc | apply pw_below_drewN | apply below_drew1 | refine below_set ?_ GE113.out) | exact HB.out)) hb)
  clear BK113
  clear HB
  have HO128 := n0_
  have BK113 := n1_
  have HB := n2_
  clear n0_ n1_ n2_
  clear hb ho14
  refine hK.out _ _ ⟨(blk_cell BK113.out 0).trans rfl, (blk_cell BK113.out 1).trans rfl, (blk_cell BK113.out 2).trans rfl, (blk_cell BK113.out 3).trans rfl, (blk_cell BK113.out 4).trans rfl, (blk_cell BK113.out 5).trans rfl, (blk_cell BK113.out 6).trans rfl, (blk_cell BK113.out 7).trans rfl, (blk_cell BK113.out 8).trans rfl, (blk_cell BK113.out 9).trans rfl, (blk_cell BK113.out 10).trans rfl, (blk_cell BK113.out 11).trans rfl, (blk_cell BK113.out 12).trans rfl⟩ (fun hHeld => ?_)
  clear hK K
  refine norm_ (a' := ?_) ?_ ?_
  rotate_left
  · show Act.put _ (some 17) _ = _
    simp only [Act.put, List.setIfInBounds_toArray, List.set_cons_zero, List.set_cons_succ, i64_w, i32_w]
    rfl
  refine pure_ (i := 14) (N := some 3) (v := ?_) (a' := ?_) #[true, true, true, true, true, true, true, true, true, true, true, true, true, true, true] rfl rfl (any_of HT_.out (by kernel_rfl)) (fun _ _ _ h => h) (Or.inl ⟨by rfl, ?_⟩) ?_ ?_
  rotate_left
  · intro w'
    go_simp
    with_reducible rfl
  rotate_left
  · simp only [Act.put, List.setIfInBounds_toArray, List.set_cons_zero, List.set_cons_succ, i64_w, i32_w]
    rfl
  refine done_ (done_of HT_.out (by kernel_rfl)) ?_
  have hcz15_0 : w13.cell? ⟨gb113, 0, none⟩ = some (.int .i64 a0_0) := (blk_cell BK113.out 0).trans rfl
  have hcz15_1 : w13.cell? ⟨gb113, 1, none⟩ = some (.int .u64 a0_1) := (blk_cell BK113.out 1).trans rfl
  have hcz15_2 : w13.cell? ⟨gb113, 2, none⟩ = some (.int .u64 a0_2) := (blk_cell BK113.out 2).trans rfl
  have hcz15_3 : w13.cell? ⟨gb113, 3, none⟩ = some (.int .u64 a0_3) := (blk_cell BK113.out 3).trans rfl
  have hcz15_4 : w13.cell? ⟨gb113, 4, none⟩ = some (.string a0_4) := (blk_cell BK113.out 4).trans rfl
  have hcz15_5 : w13.cell? ⟨gb113, 5, none⟩ = some (.string a0_5) := (blk_cell BK113.out 5).trans rfl
  have hcz15_6 : w13.cell? ⟨gb113, 6, none⟩ = some (.int .u64 a0_6) := (blk_cell BK113.out 6).trans rfl
  have hcz15_7 : w13.cell? ⟨gb113, 7, none⟩ = some (.int .u64 a0_7) := (blk_cell BK113.out 7).trans rfl
  have hcz15_8 : w13.cell? ⟨gb113, 8, none⟩ = some (.string a0_8) := (blk_cell BK113.out 8).trans rfl
  have hcz15_9 : w13.cell? ⟨gb113, 9, none⟩ = some (.int .u64 a0_9) := (blk_cell BK113.out 9).trans rfl
  have hcz15_10 : w13.cell? ⟨gb113, 10, none⟩ = some (.int .u64 a0_10) := (blk_cell BK113.out 10).trans rfl
  have hcz15_11 : w13.cell? ⟨gb113, 11, none⟩ = some (.string a0_11) := (blk_cell BK113.out 11).trans rfl
  have hcz15_12 : w13.cell? ⟨gb113, 12, none⟩ = some (.slice A0_12 l0_12.length c0_12) := (blk_cell BK113.out 12).trans rfl
  have hfz15_0 := blk_frozen BK113.out 0
  have hfz15_1 := blk_frozen BK113.out 1
  have hfz15_2 := blk_frozen BK113.out 2
  have hfz15_3 := blk_frozen BK113.out 3
  have hfz15_4 := blk_frozen BK113.out 4
  have hfz15_5 := blk_frozen BK113.out 5
  have hfz15_6 := blk_frozen BK113.out 6
  have hfz15_7 := blk_frozen BK113.out 7
  have hfz15_8 := blk_frozen BK113.out 8
  have hfz15_9 := blk_frozen BK113.out 9
  have hfz15_10 := blk_frozen BK113.out 10
  have hfz15_11 := blk_frozen BK113.out 11
  have hfz15_12 := blk_frozen BK113.out 12
  go_upto_if 20 with (fail)
  go_cut [3] (fun v3 wc => ∃ (kq : Nat) (x3_5 : List (S67)), Aside0 (frame_head.j0 kq x3_5 a0_0 a0_1 a0_2 a0_3 a0_4 a0_5 a0_6 a0_7 a0_8 a0_9 a0_10 a0_11 l0_12 = some r) ∧ Aside0 (kq ≤ k) ∧ Aside0 (Kd.R k67 67 wc w.heap.size (fun _ => True) v3 x3_5) ∧ Aside0 (wc.heap[gb113]? = some (.cells #[.int .i64 a0_0, .int .u64 a0_1, .int .u64 a0_2, .int .u64 a0_3, .string a0_4, .string a0_5, .int .u64 a0_6, .int .u64 a0_7, .string a0_8, .int .u64 a0_9, .int .u64 a0_10, .string a0_11, (.slice A0_12 l0_12.length c0_12)] 25 (0, 0))) ∧ Aside0 (Below w.heap.size w wc))
  case first =>
    have H := HC6.out
    clear HC6
    by_cases c16 : a0_0 = 0
    · rw [if_pos c16] at H
      have c16b0 : (a0_0 == 0) = true := beq_iff_eq.mpr c16
      have c16b1 : (a0_0 != 0) = false := bne_eq_false_iff_eq.mpr c16
      clear c16
      (first | rw [c16b0] | (simp only [i64_w, i32_w]; rw [c16b0]) | skip)
      replace H := Option.bind_eq_some_iff.mp H
      obtain ⟨⟨t129, t130, t131⟩, A170, H⟩ := H
      replace H : ((frame_text.f a0_5).bind fun bt132 => ((frame_number.f a0_6).bind fun bt135 => ((frame_number.f a0_7).bind fun bt138 => ((some (([(⟨t129, t130, t131⟩ : S67), (⟨bt132.1, bt132.2.1, bt132.2.2⟩ : S67), (⟨bt135.1, bt135.2.1, bt135.2.2⟩ : S67), (⟨bt138.1, bt138.2.1, bt138.2.2⟩ : S67)] : List (S67)) : List (S67))).bind fun y141 => (if y126.length + y141.length < 4398046511104 then (frame_head.j0 k (y126 ++ y141) a0_0 a0_1 a0_2 a0_3 a0_4 a0_5 a0_6 a0_7 a0_8 a0_9 a0_10 a0_11 l0_12) else (none)))))) = some r := H
      have A17 := Aside0.mk A170
      clear A170
      replace H := Option.bind_eq_some_iff.mp H
      obtain ⟨⟨t132, t133, t134⟩, A180, H⟩ := H
      replace H : ((frame_number.f a0_6).bind fun bt135 => ((frame_number.f a0_7).bind fun bt138 => ((some (([(⟨t129, t130, t131⟩ : S67), (⟨t132, t133, t134⟩ : S67), (⟨bt135.1, bt135.2.1, bt135.2.2⟩ : S67), (⟨bt138.1, bt138.2.1, bt138.2.2⟩ : S67)] : List (S67)) : List (S67))).bind fun y141 => (if y126.length + y141.length < 4398046511104 then (frame_head.j0 k (y126 ++ y141) a0_0 a0_1 a0_2 a0_3 a0_4 a0_5 a0_6 a0_7 a0_8 a0_9 a0_10 a0_11 l0_12) else (none))))) = some r := H
      have A18 := Aside0.mk A180
      clear A180
      replace H := Option.bind_eq_some_iff.mp H
      obtain ⟨⟨t135, t136, t137⟩, A190, H⟩ := H
      replace H : ((frame_number.f a0_7).bind fun bt138 => ((some (([(⟨t129, t130, t131⟩ : S67), (⟨t132, t133, t134⟩ : S67), (⟨t135, t136, t137⟩ : S67), (⟨bt138.1, bt138.2.1, bt138.2.2⟩ : S67)] : List (S67)) : List (S67))).bind fun y141 => (if y126.length + y141.length < 4398046511104 then (frame_head.j0 k (y126 ++ y141) a0_0 a0_1 a0_2 a0_3 a0_4 a0_5 a0_6 a0_7 a0_8 a0_9 a0_10 a0_11 l0_12) else (none)))) = some r := H
      have A19 := Aside0.mk A190
      clear A190
      replace H := Option.bind_eq_some_iff.mp H
      obtain ⟨⟨t138, t139, t140⟩, A200, H⟩ := H
      replace H : ((some (([(⟨t129, t130, t131⟩ : S67), (⟨t132, t133, t134⟩ : S67), (⟨t135, t136, t137⟩ : S67), (⟨t138, t139, t140⟩ : S67)] : List (S67)) : List (S67))).bind fun y141 => (if y126.length + y141.length < 4398046511104 then (frame_head.j0 k (y126 ++ y141) a0_0 a0_1 a0_2 a0_3 a0_4 a0_5 a0_6 a0_7 a0_8 a0_9 a0_10 a0_11 l0_12) else (none))) = some r := H
      have A20 := Aside0.mk A200
      clear A200
      obtain ⟨y141, hy141⟩ : ∃ y_ : List (S67), y_ = (([(⟨t129, t130, t131⟩ : S67), (⟨t132, t133, t134⟩ : S67), (⟨t135, t136, t137⟩ : S67), (⟨t138, t139, t140⟩ : S67)] : List (S67))) := ⟨_, rfl⟩
      replace H : (if y126.length + y141.length < 4398046511104 then (frame_head.j0 k (y126 ++ y141) a0_0 a0_1 a0_2 a0_3 a0_4 a0_5 a0_6 a0_7 a0_8 a0_9 a0_10 a0_11 l0_12) else (none)) = some r := by first | (rw [hy141]; with_reducible exact H) | (have H2_ := (Option.bind_some _ _).symm.trans H; rw [hy141]; with_reducible exact H2_) | (have H2_ := (Option.bind_some _ _).symm.trans H; with_reducible exact H2_) | with_reducible exact H | (rw [hy141]; exact H) | exact H
      have Ny141 := Aside0.mk hy141
      clear hy141
      by_cases c21 : y126.length + y141.length < 4398046511104
      · rw [if_pos c21] at H
        have LMc21 := Aside0.mk c21
        clear c21
        obtain ⟨y144, hy144⟩ : ∃ y_ : List (S67), y_ = (y126 ++ y141) := ⟨_, rfl⟩
        replace H : (frame_head.j0 k y144 a0_0 a0_1 a0_2 a0_3 a0_4 a0_5 a0_6 a0_7 a0_8 a0_9 a0_10 a0_11 l0_12) = some r := by first | (rw [hy144]; with_reducible exact H) | (have H2_ := (Option.bind_some _ _).symm.trans H; rw [hy144]; with_reducible exact H2_) | (have H2_ := (Option.bind_some _ _).symm.trans H; with_reducible exact H2_) | with_reducible exact H | (rw [hy144]; exact H) | exact H
        have Ny144 := Aside0.mk hy144
        clear hy144
        have H' := Aside0.mk H
        clear H
        try go_wp2
        have n0_ := Aside0.mk (Kd.R_drew HO128.out)
        have n1_ := Aside0.mk (blk_drew BK113.out)
        have n2_ := Aside0.mk (below_drew1 HB.out)
        clear HO128
        clear BK113
        clear HB
        have HO128 := n0_
        have BK113 := n1_
        have HB := n2_
        clear n0_ n1_ n2_
        refine start_ (n := 16) (S := fun w' => w'.cell? ⟨gb113, 0, none⟩ = some (.int .i64 a0_0) ∧ w'.cell? ⟨gb113, 1, none⟩ = some (.int .u64 a0_1) ∧ w'.cell? ⟨gb113, 2, none⟩ = some (.int .u64 a0_2) ∧ w'.cell? ⟨gb113, 3, none⟩ = some (.int .u64 a0_3) ∧ w'.cell? ⟨gb113, 4, none⟩ = some (.string a0_4) ∧ w'.cell? ⟨gb113, 5, none⟩ = some (.string a0_5) ∧ w'.cell? ⟨gb113, 6, none⟩ = some (.int .u64 a0_6) ∧ w'.cell? ⟨gb113, 7, none⟩ = some (.int .u64 a0_7) ∧ w'.cell? ⟨gb113, 8, none⟩ = some (.string a0_8) ∧ w'.cell? ⟨gb113, 9, none⟩ = some (.int .u64 a0_9) ∧ w'.cell? ⟨gb113, 10, none⟩ = some (.int .u64 a0_10) ∧ w'.cell? ⟨gb113, 11, none⟩ = some (.string a0_11) ∧ w'.cell? ⟨gb113, 12, none⟩ = some (.slice A0_12 l0_12.length c0_12)) (ds := []) #[false, false, false, false, false, false, false, false, false, false, false, false, false, false, false, false] (by kernel_rfl) rfl rfl ⟨(blk_cell BK113.out 0).trans rfl, (blk_cell BK113.out 1).trans rfl, (blk_cell BK113.out 2).trans rfl, (blk_cell BK113.out 3).trans rfl, (blk_cell BK113.out 4).trans rfl, (blk_cell BK113.out 5).trans rfl, (blk_cell BK113.out 6).trans rfl, (blk_cell BK113.out 7).trans rfl, (blk_cell BK113.out 8).trans rfl, (blk_cell BK113.out 9).trans rfl, (blk_cell BK113.out 10).trans rfl, (blk_cell BK113.out 11).trans rfl, (blk_cell BK113.out 12).trans rfl⟩ (fun hHeld => ?_); refine with_tabW frame_head.tab3 frame_head.bits3 (fun HT_ HW_ => ?_)
        generalize w13.drew = w22 at HO128 BK113 HB hHeld ⊢
        refine pure_ (i := 0) (N := some 21) (v := ?_) (a' := ?_) #[true, false, false, false, false, false, false, false, false, false, false, false, false, false, false, false] rfl rfl (any_of HT_.out (by kernel_rfl)) (fun _ _ _ h => h) (Or.inl ⟨by rfl, ?_⟩) ?_ ?_
        rotate_left
        · intro w'
          go_simp
          with_reducible rfl
        rotate_left
        · simp only [Act.put, List.setIfInBounds_toArray, List.set_cons_zero, List.set_cons_succ, i64_w, i32_w]
          rfl
        refine pure_ (i := 1) (N := some 22) (v := ?_) (a' := ?_) #[true, true, false, false, false, false, false, false, false, false, false, false, false, false, false, false] rfl rfl (any_of HT_.out (by kernel_rfl)) (fun _ _ _ h => h) (Or.inl ⟨by rfl, ?_⟩) ?_ ?_
        rotate_left
        · intro w'
          go_simp
          with_reducible rfl
        rotate_left
        · simp only [Act.put, List.setIfInBounds_toArray, List.set_cons_zero, List.set_cons_succ, i64_w, i32_w]
          rfl
        refine pure_ (i := 4) (N := some 25) (v := ?_) (a' := ?_) #[true, true, false, false, true, false, false, false, false, false, false, false, false, false, false, false] rfl rfl (any_of HT_.out (by kernel_rfl)) (fun _ _ _ h => h) (Or.inl ⟨by rfl, ?_⟩) ?_ ?_
        rotate_left
        · intro w'
          go_simp
          with_reducible rfl
        rotate_left
        · simp only [Act.put, List.setIfInBounds_toArray, List.set_cons_zero, List.set_cons_succ, i64_w, i32_w]
          rfl
        refine pure_ (i := 7) (N := some 28) (v := ?_) (a' := ?_) #[true, true, false, false, true, false, false, true, false, false, false, false, false, false, false, false] rfl rfl (any_of HT_.out (by kernel_rfl)) (fun _ _ _ h => h) (Or.inl ⟨by rfl, ?_⟩) ?_ ?_
        rotate_left
        · intro w'
          go_simp
          with_reducible rfl
        rotate_left
        · simp only [Act.put, List.setIfInBounds_toArray, List.set_cons_zero, List.set_cons_succ, i64_w, i32_w]
          rfl
        refine pure_ (i := 10) (N := some 31) (v := ?_) (a' := ?_) #[true, true, false, false, true, false, false, true, false, false, true, false, false, false, false, false] rfl rfl (any_of HT_.out (by kernel_rfl)) (fun _ _ _ h => h) (Or.inl ⟨by rfl, ?_⟩) ?_ ?_
        rotate_left
        · intro w'
          go_simp
          with_reducible rfl
        rotate_left
        · simp only [Act.put, List.setIfInBounds_toArray, List.set_cons_zero, List.set_cons_succ, i64_w, i32_w]
          rfl
        refine take_ (i := 2) (N := some 23) (v := ?_) (a' := ?_) #[true, true, true, false, true, false, false, true, false, false, true, false, false, false, false, false] rfl rfl (take_ofW HT_.out HW_.out (by kernel_rfl)) (fun _ _ _ h => h) (Or.inl ⟨by rfl, ?_⟩) hHeld ?_ ?_
        rotate_left
        · rintro w' ⟨s0, s1, s2, s3, s4, s5, s6, s7, s8, s9, s10, s11, s12⟩
          go_simp
          with_reducible rfl
        rotate_left
        · simp only [Act.put, List.setIfInBounds_toArray, List.set_cons_zero, List.set_cons_succ, i64_w, i32_w]
          rfl
        refine take_ (i := 5) (N := some 26) (v := ?_) (a' := ?_) #[true, true, true, false, true, true, false, true, false, false, true, false, false, false, false, false] rfl rfl (take_ofW HT_.out HW_.out (by kernel_rfl)) (fun _ _ _ h => h) (Or.inl ⟨by rfl, ?_⟩) hHeld ?_ ?_
        rotate_left
        · rintro w' ⟨s0, s1, s2, s3, s4, s5, s6, s7, s8, s9, s10, s11, s12⟩
          go_simp
          with_reducible rfl
        rotate_left
        · simp only [Act.put, List.setIfInBounds_toArray, List.set_cons_zero, List.set_cons_succ, i64_w, i32_w]
          rfl
        refine take_ (i := 8) (N := some 29) (v := ?_) (a' := ?_) #[true, true, true, false, true, true, false, true, true, false, true, false, false, false, false, false] rfl rfl (take_ofW HT_.out HW_.out (by kernel_rfl)) (fun _ _ _ h => h) (Or.inl ⟨by rfl, ?_⟩) hHeld ?_ ?_
        rotate_left
        · rintro w' ⟨s0, s1, s2, s3, s4, s5, s6, s7, s8, s9, s10, s11, s12⟩
          go_simp
          with_reducible rfl
        rotate_left
        · simp only [Act.put, List.setIfInBounds_toArray, List.set_cons_zero, List.set_cons_succ, i64_w, i32_w]
          rfl
        refine take_ (i := 11) (N := some 32) (v := ?_) (a' := ?_) #[true, true, true, false, true, true, false, true, true, false, true, true, false, false, false, false] rfl rfl (take_ofW HT_.out HW_.out (by kernel_rfl)) (fun _ _ _ h => h) (Or.inl ⟨by rfl, ?_⟩) hHeld ?_ ?_
        rotate_left
        · rintro w' ⟨s0, s1, s2, s3, s4, s5, s6, s7, s8, s9, s10, s11, s12⟩
          go_simp
          with_reducible rfl
        rotate_left
        · simp only [Act.put, List.setIfInBounds_toArray, List.set_cons_zero, List.set_cons_succ, i64_w, i32_w]
          rfl
        refine one_ (i := 3) (N := some 24) #[true, true, true, true, true, true, false, true, true, false, true, true, false, false, false, false] rfl rfl (one_of HT_.out (by kernel_rfl)) (by decide) (fun K hK => ?_)
        refine goes_ Try.func44 (by kernel_rfl) rfl #[.string a0_4] (by rfl) rfl rfl (by (try simp only [List.map_toArray, List.map_cons, List.map_nil]); first | done | rfl | (simp only [List.length_drop, List.length_take]; rfl)) ?_
        with_reducible refine (frame_text.calls a0_4 t129 t130 t131 _ A17.out).mono ?_
        rintro e w23 ⟨rfl, hb⟩
        refine ⟨_, rfl, ?_⟩
        have n0_ := Aside0.mk (Kd.R_below (by (with_reducible repeat (first | apply Kd.R_alloc | apply Kd.R_drewN | apply Kd.R_drew)); exact HO128.out) hb)
        have n1_ := Aside0.mk (blk_below (g := gb113) (o := .cells #[.int .i64 a0_0, .int .u64 a0_1, .int .u64 a0_2, .int .u64 a0_3, .string a0_4, .string a0_5, .int .u64 a0_6, .int .u64 a0_7, .string a0_8, .int .u64 a0_9, .int .u64 a0_10, .string a0_11, .slice A0_12 l0_12.length c0_12] 25 (0, 0)) (by (with_reducible repeat (first | refine blk_drewN ?_ _ | refine blk_drew ?_ | refine blk_alloc ?_ _)); exact BK113.out) hb)
        have n2_ := Aside0.mk (below_step (by repeat (first | (with_reducible first | exact HB.out | apply below_alloc | apply pw_below_drewN | apply below_drew1 | refine below_set ?_ GE113.out) | exact HB.out)) hb)
        clear HO128
        clear BK113
        clear HB
        have HO128 := n0_
        have BK113 := n1_
        have HB := n2_
        clear n0_ n1_ n2_
        (try clear hb)
        (try clear hb2)
        (try clear hk)
        (try clear hi)
        refine hK.out _ _ ⟨(blk_cell BK113.out 0).trans rfl, (blk_cell BK113.out 1).trans rfl, (blk_cell BK113.out 2).trans rfl, (blk_cell BK113.out 3).trans rfl, (blk_cell BK113.out 4).trans rfl, (blk_cell BK113.out 5).trans rfl, (blk_cell BK113.out 6).trans rfl, (blk_cell BK113.out 7).trans rfl, (blk_cell BK113.out 8).trans rfl, (blk_cell BK113.out 9).trans rfl, (blk_cell BK113.out 10).trans rfl, (blk_cell BK113.out 11).trans rfl, (blk_cell BK113.out 12).trans rfl⟩ (fun hHeld => ?_)
        clear hK K
        refine norm_ (a' := ?_) ?_ ?_
        rotate_left
        · show Act.put _ (some 24) _ = _
          simp only [Act.put, List.setIfInBounds_toArray, List.set_cons_zero, List.set_cons_succ, i64_w, i32_w]
          rfl
        refine one_ (i := 6) (N := some 27) #[true, true, true, true, true, true, true, true, true, false, true, true, false, false, false, false] rfl rfl (one_of HT_.out (by kernel_rfl)) (by decide) (fun K hK => ?_)
        refine goes_ Try.func44 (by kernel_rfl) rfl #[.string a0_5] (by rfl) rfl rfl (by (try simp only [List.map_toArray, List.map_cons, List.map_nil]); first | done | rfl | (simp only [List.length_drop, List.length_take]; rfl)) ?_
        with_reducible refine (frame_text.calls a0_5 t132 t133 t134 _ A18.out).mono ?_
        rintro e w24 ⟨rfl, hb⟩
        refine ⟨_, rfl, ?_⟩
        have n0_ := Aside0.mk (Kd.R_below (by (with_reducible repeat (first | apply Kd.R_alloc | apply Kd.R_drewN | apply Kd.R_drew)); exact HO128.out) hb)
        have n1_ := Aside0.mk (blk_below (g := gb113) (o := .cells #[.int .i64 a0_0, .int .u64 a0_1, .int .u64 a0_2, .int .u64 a0_3, .string a0_4, .string a0_5, .int .u64 a0_6, .int .u64 a0_7, .string a0_8, .int .u64 a0_9, .int .u64 a0_10, .string a0_11, .slice A0_12 l0_12.length c0_12] 25 (0, 0)) (by (with_reducible repeat (first | refine blk_drewN ?_ _ | refine blk_drew ?_ | refine blk_alloc ?_ _)); exact BK113.out) hb)
        have n2_ := Aside0.mk (below_step (by repeat (first | (with_reducible first | exact HB.out | apply below_alloc | apply pw_below_drewN | apply below_drew1 | refine below_set ?_ GE113.out) | exact HB.out)) hb)
        clear HO128
        clear BK113
        clear HB
        have HO128 := n0_
        have BK113 := n1_
        have HB := n2_
        clear n0_ n1_ n2_
        (try clear hb)
        (try clear hb2)
        (try clear hk)
        (try clear hi)
        refine hK.out _ _ ⟨(blk_cell BK113.out 0).trans rfl, (blk_cell BK113.out 1).trans rfl, (blk_cell BK113.out 2).trans rfl, (blk_cell BK113.out 3).trans rfl, (blk_cell BK113.out 4).trans rfl, (blk_cell BK113.out 5).trans rfl, (blk_cell BK113.out 6).trans rfl, (blk_cell BK113.out 7).trans rfl, (blk_cell BK113.out 8).trans rfl, (blk_cell BK113.out 9).trans rfl, (blk_cell BK113.out 10).trans rfl, (blk_cell BK113.out 11).trans rfl, (blk_cell BK113.out 12).trans rfl⟩ (fun hHeld => ?_)
        clear hK K
        refine norm_ (a' := ?_) ?_ ?_
        rotate_left
        · show Act.put _ (some 27) _ = _
          simp only [Act.put, List.setIfInBounds_toArray, List.set_cons_zero, List.set_cons_succ, i64_w, i32_w]
          rfl
        refine one_ (i := 9) (N := some 30) #[true, true, true, true, true, true, true, true, true, true, true, true, false, false, false, false] rfl rfl (one_of HT_.out (by kernel_rfl)) (by decide) (fun K hK => ?_)
        refine goes_ Try.func45 (by kernel_rfl) rfl #[.int .u64 a0_6] (by rfl) rfl rfl (by (try simp only [List.map_toArray, List.map_cons, List.map_nil]); first | done | rfl | (simp only [List.length_drop, List.length_take]; rfl)) ?_
        with_reducible refine (frame_number.calls a0_6 t135 t136 t137 _ A19.out).mono ?_
        rintro e w25 ⟨rfl, hb⟩
        refine ⟨_, rfl, ?_⟩
        have n0_ := Aside0.mk (Kd.R_below (by (with_reducible repeat (first | apply Kd.R_alloc | apply Kd.R_drewN | apply Kd.R_drew)); exact HO128.out) hb)
        have n1_ := Aside0.mk (blk_below (g := gb113) (o := .cells #[.int .i64 a0_0, .int .u64 a0_1, .int .u64 a0_2, .int .u64 a0_3, .string a0_4, .string a0_5, .int .u64 a0_6, .int .u64 a0_7, .string a0_8, .int .u64 a0_9, .int .u64 a0_10, .string a0_11, .slice A0_12 l0_12.length c0_12] 25 (0, 0)) (by (with_reducible repeat (first | refine blk_drewN ?_ _ | refine blk_drew ?_ | refine blk_alloc ?_ _)); exact BK113.out) hb)
        have n2_ := Aside0.mk (below_step (by repeat (first | (with_reducible first | exact HB.out | apply below_alloc | apply pw_below_drewN | apply below_drew1 | refine below_set ?_ GE113.out) | exact HB.out)) hb)
        clear HO128
        clear BK113
        clear HB
        have HO128 := n0_
        have BK113 := n1_
        have HB := n2_
        clear n0_ n1_ n2_
        (try clear hb)
        (try clear hb2)
        (try clear hk)
        (try clear hi)
        refine hK.out _ _ ⟨(blk_cell BK113.out 0).trans rfl, (blk_cell BK113.out 1).trans rfl, (blk_cell BK113.out 2).trans rfl, (blk_cell BK113.out 3).trans rfl, (blk_cell BK113.out 4).trans rfl, (blk_cell BK113.out 5).trans rfl, (blk_cell BK113.out 6).trans rfl, (blk_cell BK113.out 7).trans rfl, (blk_cell BK113.out 8).trans rfl, (blk_cell BK113.out 9).trans rfl, (blk_cell BK113.out 10).trans rfl, (blk_cell BK113.out 11).trans rfl, (blk_cell BK113.out 12).trans rfl⟩ (fun hHeld => ?_)
        clear hK K
        refine norm_ (a' := ?_) ?_ ?_
        rotate_left
        · show Act.put _ (some 30) _ = _
          simp only [Act.put, List.setIfInBounds_toArray, List.set_cons_zero, List.set_cons_succ, i64_w, i32_w]
          rfl
        refine one_ (i := 12) (N := some 33) #[true, true, true, true, true, true, true, true, true, true, true, true, true, false, false, false] rfl rfl (one_of HT_.out (by kernel_rfl)) (by decide) (fun K hK => ?_)
        refine goes_ Try.func45 (by kernel_rfl) rfl #[.int .u64 a0_7] (by rfl) rfl rfl (by (try simp only [List.map_toArray, List.map_cons, List.map_nil]); first | done | rfl | (simp only [List.length_drop, List.length_take]; rfl)) ?_
        with_reducible refine (frame_number.calls a0_7 t138 t139 t140 _ A20.out).mono ?_
        rintro e w26 ⟨rfl, hb⟩
        refine ⟨_, rfl, ?_⟩
        have n0_ := Aside0.mk (Kd.R_below (by (with_reducible repeat (first | apply Kd.R_alloc | apply Kd.R_drewN | apply Kd.R_drew)); exact HO128.out) hb)
        have n1_ := Aside0.mk (blk_below (g := gb113) (o := .cells #[.int .i64 a0_0, .int .u64 a0_1, .int .u64 a0_2, .int .u64 a0_3, .string a0_4, .string a0_5, .int .u64 a0_6, .int .u64 a0_7, .string a0_8, .int .u64 a0_9, .int .u64 a0_10, .string a0_11, .slice A0_12 l0_12.length c0_12] 25 (0, 0)) (by (with_reducible repeat (first | refine blk_drewN ?_ _ | refine blk_drew ?_ | refine blk_alloc ?_ _)); exact BK113.out) hb)
        have n2_ := Aside0.mk (below_step (by repeat (first | (with_reducible first | exact HB.out | apply below_alloc | apply pw_below_drewN | apply below_drew1 | refine below_set ?_ GE113.out) | exact HB.out)) hb)
        clear HO128
        clear BK113
        clear HB
        have HO128 := n0_
        have BK113 := n1_
        have HB := n2_
        clear n0_ n1_ n2_
        (try clear hb)
        (try clear hb2)
        (try clear hk)
        (try clear hi)
        refine hK.out _ _ ⟨(blk_cell BK113.out 0).trans rfl, (blk_cell BK113.out 1).trans rfl, (blk_cell BK113.out 2).trans rfl, (blk_cell BK113.out 3).trans rfl, (blk_cell BK113.out 4).trans rfl, (blk_cell BK113.out 5).trans rfl, (blk_cell BK113.out 6).trans rfl, (blk_cell BK113.out 7).trans rfl, (blk_cell BK113.out 8).trans rfl, (blk_cell BK113.out 9).trans rfl, (blk_cell BK113.out 10).trans rfl, (blk_cell BK113.out 11).trans rfl, (blk_cell BK113.out 12).trans rfl⟩ (fun hHeld => ?_)
        clear hK K
        refine norm_ (a' := ?_) ?_ ?_
        rotate_left
        · show Act.put _ (some 33) _ = _
          simp only [Act.put, List.setIfInBounds_toArray, List.set_cons_zero, List.set_cons_succ, i64_w, i32_w]
          rfl
        refine one_ (i := 13) (N := some 34) #[true, true, true, true, true, true, true, true, true, true, true, true, true, true, false, false] rfl rfl (one_of HT_.out (by kernel_rfl)) (by decide) (fun K hK => ?_)
        refine Kd.R_lit_step k67 _ 67 ?hg (N := 34) ?hd (xs := ([(⟨t129, t130, t131⟩ : S67), (⟨t132, t133, t134⟩ : S67), (⟨t135, t136, t137⟩ : S67), (⟨t138, t139, t140⟩ : S67)] : List (S67))) (inner := [.bool t129, .int .u64 t130, .string t131, .bool t132, .int .u64 t133, .string t134, .bool t135, .int .u64 t136, .string t137, .bool t138, .int .u64 t139, .string t140]) (ok := fun _ => True) (okp := fun _ => True) ?hr ?hp (fun _ hk => hk) trivial (Below.refl _ _) (Nat.le_refl _) (by simp) ?_; (case hd => rfl); (case hg => rfl); (case hr => first | (go_simp; done) | (go_simp; rfl)); (case hp => exact (Reps.c3 (show Kd.M k67 _ _ _ (⟨t129, t130, t131⟩ : S67) [.bool t129, .int .u64 t130, .string t131] from (k67_mkM _ _ _ (⟨t129, t130, t131⟩ : S67) )) (Reps.c3 (show Kd.M k67 _ _ _ (⟨t132, t133, t134⟩ : S67) [.bool t132, .int .u64 t133, .string t134] from (k67_mkM _ _ _ (⟨t132, t133, t134⟩ : S67) )) (Reps.c3 (show Kd.M k67 _ _ _ (⟨t135, t136, t137⟩ : S67) [.bool t135, .int .u64 t136, .string t137] from (k67_mkM _ _ _ (⟨t135, t136, t137⟩ : S67) )) (Reps.c3 (show Kd.M k67 _ _ _ (⟨t138, t139, t140⟩ : S67) [.bool t138, .int .u64 t139, .string t140] from (k67_mkM _ _ _ (⟨t138, t139, t140⟩ : S67) )) (Reps.none _ _))))))
        intro v142 w27 ho28 hb hg_ hnew_
        clear hg_ hnew_
        (first | rw [← Ny141.out] at ho28 | (simp only [Int.reduceToNat] at ho28; rw [← Ny141.out] at ho28))
        have n0_ := Aside0.mk (Kd.R_elder' (by (with_reducible repeat (first | apply Kd.R_alloc | apply Kd.R_drewN | apply Kd.R_drew)); exact HO128.out) (Kd.R_base ho28) hb)
        have n1_ := Aside0.mk (Kd.R_lower (Kd.R_new' ho28 (Kd.R_lt (by (with_reducible repeat (first | apply Kd.R_alloc | apply Kd.R_drewN | apply Kd.R_drew)); exact HO128.out))) (below_size (by repeat (first | (with_reducible first | exact HB.out | apply below_alloc | apply pw_below_drewN | apply below_drew1 | refine below_set ?_ GE113.out) | exact HB.out))))
        have n2_ := Aside0.mk (blk_below (g := gb113) (o := .cells #[.int .i64 a0_0, .int .u64 a0_1, .int .u64 a0_2, .int .u64 a0_3, .string a0_4, .string a0_5, .int .u64 a0_6, .int .u64 a0_7, .string a0_8, .int .u64 a0_9, .int .u64 a0_10, .string a0_11, .slice A0_12 l0_12.length c0_12] 25 (0, 0)) (by (with_reducible repeat (first | refine blk_drewN ?_ _ | refine blk_drew ?_ | refine blk_alloc ?_ _)); exact BK113.out) hb)
        have n3_ := Aside0.mk (below_step (by repeat (first | (with_reducible first | exact HB.out | apply below_alloc | apply pw_below_drewN | apply below_drew1 | refine below_set ?_ GE113.out) | exact HB.out)) hb)
        clear HO128
        clear BK113
        clear HB
        have HO128 := n0_
        have HO143 := n1_
        have BK113 := n2_
        have HB := n3_
        clear n0_ n1_ n2_ n3_
        clear hb ho28
        obtain ⟨Ao30, co30, eo30⟩ := Kd.R_slice HO143.out
        (first | subst eo30 | (injection eo30 with f1_ f2_ f3_; have f4_ := f1_.symm; have f5_ := f3_.symm; clear f1_ f2_ f3_; subst f4_; subst f5_))
        refine hK.out _ _ ⟨(blk_cell BK113.out 0).trans rfl, (blk_cell BK113.out 1).trans rfl, (blk_cell BK113.out 2).trans rfl, (blk_cell BK113.out 3).trans rfl, (blk_cell BK113.out 4).trans rfl, (blk_cell BK113.out 5).trans rfl, (blk_cell BK113.out 6).trans rfl, (blk_cell BK113.out 7).trans rfl, (blk_cell BK113.out 8).trans rfl, (blk_cell BK113.out 9).trans rfl, (blk_cell BK113.out 10).trans rfl, (blk_cell BK113.out 11).trans rfl, (blk_cell BK113.out 12).trans rfl⟩ (fun hHeld => ?_)
        clear hK K
        refine norm_ (a' := ?_) ?_ ?_
        rotate_left
        · show Act.put _ (some 34) _ = _
          simp only [Act.put, List.setIfInBounds_toArray, List.set_cons_zero, List.set_cons_succ, i64_w, i32_w]
          rfl
        refine one_ (i := 14) (N := some 35) #[true, true, true, true, true, true, true, true, true, true, true, true, true, true, true, false] rfl rfl (one_of HT_.out (by kernel_rfl)) (by decide) (fun K hK => ?_)
        refine Kd.R_append_rows_step k67 (w0 := w) w.heap.size (by rfl) (.tmp 21) (.tmp 34) 48 67 (.agg #[(.bool false), (.int .u64 0), (.string ⟨#[]⟩)]) 32 rfl Try.underlying48 info67 rfl (by decide) (by omega) v127 y126 y141 _ _ _ (fun k_ => some k_ ≠ (.slice Ao30 y141.length co30 : Value).ownBlock) (fun _ => False) rfl rfl ?aO ?aR (fun _ _ h => h) (fun _ h => h.elim) ?aF ?aB ?aS ?aL ?_
        (case aR => repeat (first | exact (Kd.R_reads' HO143.out).2.2 | (with_reducible refine Kd.C_alloc ?_ _) | (with_reducible refine Kd.C_drewN ?_ _) | (with_reducible refine Kd.C_drew ?_)))
        (case aB => exact (by repeat (first | (with_reducible first | exact HB.out | apply below_alloc | apply pw_below_drewN | apply below_drew1 | refine below_set ?_ GE113.out) | exact HB.out)))
        (case aF => exact (fun k_ hk => Kd.fresh' (Kd.R_lt (by (with_reducible repeat (first | apply Kd.R_alloc | apply Kd.R_drewN | apply Kd.R_drew)); exact HO143.out)) k_ hk))
        (case aO => exact (by (with_reducible repeat (first | apply Kd.R_alloc | apply Kd.R_drewN | apply Kd.R_drew)); exact Kd.R_mono HO128.out (fun _ hk => hk.2)))
        (case aS => exact (below_size (by repeat (first | (with_reducible first | exact HB.out | apply below_alloc | apply pw_below_drewN | apply below_drew1 | refine below_set ?_ GE113.out) | exact HB.out))))
        (case aL => have := LMc21.out; omega)
        intro v145 w29 ho hb hg hat
        rw [← Ny144.out] at ho
        have n0_ := Aside0.mk (blk_grown (g := gb113) (o := .cells #[.int .i64 a0_0, .int .u64 a0_1, .int .u64 a0_2, .int .u64 a0_3, .string a0_4, .string a0_5, .int .u64 a0_6, .int .u64 a0_7, .string a0_8, .int .u64 a0_9, .int .u64 a0_10, .string a0_11, .slice A0_12 l0_12.length c0_12] 25 (0, 0)) (by (with_reducible repeat (first | refine blk_drewN ?_ _ | refine blk_drew ?_ | refine blk_alloc ?_ _)); exact BK113.out) hg (Kd.R_ne HO128.out BK113.out (by decide)))
        have n1_ := Aside0.mk (Kd.R_after (ok := (fun _ => True)) (by (with_reducible repeat (first | apply Kd.R_alloc | apply Kd.R_drewN | apply Kd.R_drew)); exact HO143.out) hg hat)
        have n2_ := Aside0.mk (hb)
        have n3_ := Aside0.mk (ho)
        clear BK113
        clear HO143
        clear HB
        clear HO128
        have BK113 := n0_
        have HO143 := n1_
        have HB := n2_
        have HO146 := n3_
        clear n0_ n1_ n2_ n3_
        clear ho hb hg hat
        refine hK.out _ _ ⟨(blk_cell BK113.out 0).trans rfl, (blk_cell BK113.out 1).trans rfl, (blk_cell BK113.out 2).trans rfl, (blk_cell BK113.out 3).trans rfl, (blk_cell BK113.out 4).trans rfl, (blk_cell BK113.out 5).trans rfl, (blk_cell BK113.out 6).trans rfl, (blk_cell BK113.out 7).trans rfl, (blk_cell BK113.out 8).trans rfl, (blk_cell BK113.out 9).trans rfl, (blk_cell BK113.out 10).trans rfl, (blk_cell BK113.out 11).trans rfl, (blk_cell BK113.out 12).trans rfl⟩ (fun hHeld => ?_)
        clear hK K
        refine norm_ (a' := ?_) ?_ ?_
        rotate_left
        · show Act.put _ (some 35) _ = _
          simp only [Act.put, List.setIfInBounds_toArray, List.set_cons_zero, List.set_cons_succ, i64_w, i32_w]
          rfl
        refine pure_ (i := 15) (N := some 3) (v := ?_) (a' := ?_) #[true, true, true, true, true, true, true, true, true, true, true, true, true, true, true, true] rfl rfl (any_of HT_.out (by kernel_rfl)) (fun _ _ _ h => h) (Or.inl ⟨by rfl, ?_⟩) ?_ ?_
        rotate_left
        · intro w'
          go_simp
          with_reducible rfl
        rotate_left
        · simp only [Act.put, List.setIfInBounds_toArray, List.set_cons_zero, List.set_cons_succ, i64_w, i32_w]
          rfl
        refine done_ (done_of HT_.out (by kernel_rfl)) ?_
        try go_wp2
        go_meet
        case rel => exact ⟨_, (y144), H', ⟨by first | omega | exact Nat.le_refl _⟩, ⟨by (with_reducible repeat (first | apply Kd.R_alloc | apply Kd.R_drewN | apply Kd.R_drew)); exact Kd.R_mono HO146.out (fun _ hk => trivial)⟩, ⟨by (with_reducible repeat (first | refine blk_drewN ?_ _ | refine blk_drew ?_ | refine blk_alloc ?_ _)); exact BK113.out⟩, ⟨by repeat (first | (with_reducible first | exact HB.out | apply below_alloc | apply pw_below_drewN | apply below_drew1 | refine below_set ?_ GE113.out) | exact HB.out)⟩⟩
      · rw [if_neg c21] at H
        exact absurd H (by simp)
    · rw [if_neg c16] at H
      have c16b0 : (a0_0 == 0) = false := beq_eq_false_iff_ne.mpr c16
      have c16b1 : (a0_0 != 0) = true := bne_iff_ne.mpr c16
      (first | rw [c16b0] | (simp only [i64_w, i32_w]; rw [c16b0]) | skip)
      have H' := Aside0.mk H
      clear H
      go_wp2
      go_meet
      case rel => exact ⟨_, (y126), H', ⟨by first | omega | exact Nat.le_refl _⟩, ⟨by (with_reducible repeat (first | apply Kd.R_alloc | apply Kd.R_drewN | apply Kd.R_drew)); exact HO128.out⟩, ⟨by (with_reducible repeat (first | refine blk_drewN ?_ _ | refine blk_drew ?_ | refine blk_alloc ?_ _)); exact BK113.out⟩, ⟨by repeat (first | (with_reducible first | exact HB.out | apply below_alloc | apply pw_below_drewN | apply below_drew1 | refine below_set ?_ GE113.out) | exact HB.out)⟩⟩
  case rest =>
    clear HC6
    try clear c1
    try clear c2
    try clear p2
    try clear c3
    try clear c4
    try clear c16
    try clear c16b0
    try clear c16b1
    try clear c21
    try clear c25
    try clear hcz15_0
    try clear hcz15_1
    try clear hcz15_10
    try clear hcz15_11
    try clear hcz15_12
    try clear hcz15_2
    try clear hcz15_3
    try clear hcz15_4
    try clear hcz15_5
    try clear hcz15_6
    try clear hcz15_7
    try clear hcz15_8
    try clear hcz15_9
    try clear hfz15_0
    try clear hfz15_1
    try clear hfz15_10
    try clear hfz15_11
    try clear hfz15_12
    try clear hfz15_2
    try clear hfz15_3
    try clear hfz15_4
    try clear hfz15_5
    try clear hfz15_6
    try clear hfz15_7
    try clear hfz15_8
    try clear hfz15_9
    obtain ⟨kq, x3_5, HA, HJ5, HO_3, BK113, HB⟩ := hcut
    cases kq with
    | zero => exact absurd HA.out (by simp [frame_head.j0])
    | succ kj5 =>
      have H := HA.out
      clear HA
      simp only [frame_head.j0] at H
      by_cases c31 : a0_0 = 2
      · rw [if_pos c31] at H
        have c31b0 : (a0_0 == 2) = true := beq_iff_eq.mpr c31
        have c31b1 : (a0_0 != 2) = false := bne_eq_false_iff_eq.mpr c31
        clear c31
        obtain rfl := Option.some.inj H
        have hcz32_0 : wc.cell? ⟨gb113, 0, none⟩ = some (.int .i64 a0_0) := (blk_cell BK113.out 0).trans rfl
        have hcz32_1 : wc.cell? ⟨gb113, 1, none⟩ = some (.int .u64 a0_1) := (blk_cell BK113.out 1).trans rfl
        have hcz32_2 : wc.cell? ⟨gb113, 2, none⟩ = some (.int .u64 a0_2) := (blk_cell BK113.out 2).trans rfl
        have hcz32_3 : wc.cell? ⟨gb113, 3, none⟩ = some (.int .u64 a0_3) := (blk_cell BK113.out 3).trans rfl
        have hcz32_4 : wc.cell? ⟨gb113, 4, none⟩ = some (.string a0_4) := (blk_cell BK113.out 4).trans rfl
        have hcz32_5 : wc.cell? ⟨gb113, 5, none⟩ = some (.string a0_5) := (blk_cell BK113.out 5).trans rfl
        have hcz32_6 : wc.cell? ⟨gb113, 6, none⟩ = some (.int .u64 a0_6) := (blk_cell BK113.out 6).trans rfl
        have hcz32_7 : wc.cell? ⟨gb113, 7, none⟩ = some (.int .u64 a0_7) := (blk_cell BK113.out 7).trans rfl
        have hcz32_8 : wc.cell? ⟨gb113, 8, none⟩ = some (.string a0_8) := (blk_cell BK113.out 8).trans rfl
        have hcz32_9 : wc.cell? ⟨gb113, 9, none⟩ = some (.int .u64 a0_9) := (blk_cell BK113.out 9).trans rfl
        have hcz32_10 : wc.cell? ⟨gb113, 10, none⟩ = some (.int .u64 a0_10) := (blk_cell BK113.out 10).trans rfl
        have hcz32_11 : wc.cell? ⟨gb113, 11, none⟩ = some (.string a0_11) := (blk_cell BK113.out 11).trans rfl
        have hcz32_12 : wc.cell? ⟨gb113, 12, none⟩ = some (.slice A0_12 l0_12.length c0_12) := (blk_cell BK113.out 12).trans rfl
        have hfz32_0 := blk_frozen BK113.out 0
        have hfz32_1 := blk_frozen BK113.out 1
        have hfz32_2 := blk_frozen BK113.out 2
        have hfz32_3 := blk_frozen BK113.out 3
        have hfz32_4 := blk_frozen BK113.out 4
        have hfz32_5 := blk_frozen BK113.out 5
        have hfz32_6 := blk_frozen BK113.out 6
        have hfz32_7 := blk_frozen BK113.out 7
        have hfz32_8 := blk_frozen BK113.out 8
        have hfz32_9 := blk_frozen BK113.out 9
        have hfz32_10 := blk_frozen BK113.out 10
        have hfz32_11 := blk_frozen BK113.out 11
        have hfz32_12 := blk_frozen BK113.out 12
        go_wp2
        go_ret
        exact ⟨_, by first | rfl | (simp [errW_none, errW_some] <;> rfl) | (simp [*, errW_none, errW_some] <;> rfl), by (with_reducible repeat (first | apply Kd.R_alloc | apply Kd.R_drewN | apply Kd.R_drew)); exact HO_3.out, by repeat (first | (with_reducible first | exact HB.out | apply below_alloc | apply pw_below_drewN | apply below_drew1 | refine below_set ?_ GE113.out) | exact HB.out)⟩
      · rw [if_neg c31] at H
        have c31b0 : (a0_0 == 2) = false := beq_eq_false_iff_ne.mpr c31
        have c31b1 : (a0_0 != 2) = true := bne_iff_ne.mpr c31
        replace H := Option.bind_eq_some_iff.mp H
        obtain ⟨⟨t147, t148, t149⟩, A330, H⟩ := H
        replace H : ((frame_number.f a0_9).bind fun bt150 => ((frame_number.f a0_10).bind fun bt153 => ((some (([(⟨t147, t148, t149⟩ : S67), (⟨bt150.1, bt150.2.1, bt150.2.2⟩ : S67), (⟨bt153.1, bt153.2.1, bt153.2.2⟩ : S67)] : List (S67)) : List (S67))).bind fun y156 => (if x3_5.length + y156.length < 4398046511104 then (some (x3_5 ++ y156)) else (none))))) = some r := H
        have A33 := Aside0.mk A330
        clear A330
        replace H := Option.bind_eq_some_iff.mp H
        obtain ⟨⟨t150, t151, t152⟩, A340, H⟩ := H
        replace H : ((frame_number.f a0_10).bind fun bt153 => ((some (([(⟨t147, t148, t149⟩ : S67), (⟨t150, t151, t152⟩ : S67), (⟨bt153.1, bt153.2.1, bt153.2.2⟩ : S67)] : List (S67)) : List (S67))).bind fun y156 => (if x3_5.length + y156.length < 4398046511104 then (some (x3_5 ++ y156)) else (none)))) = some r := H
        have A34 := Aside0.mk A340
        clear A340
        replace H := Option.bind_eq_some_iff.mp H
        obtain ⟨⟨t153, t154, t155⟩, A350, H⟩ := H
        replace H : ((some (([(⟨t147, t148, t149⟩ : S67), (⟨t150, t151, t152⟩ : S67), (⟨t153, t154, t155⟩ : S67)] : List (S67)) : List (S67))).bind fun y156 => (if x3_5.length + y156.length < 4398046511104 then (some (x3_5 ++ y156)) else (none))) = some r := H
        have A35 := Aside0.mk A350
        clear A350
        obtain ⟨y156, hy156⟩ : ∃ y_ : List (S67), y_ = (([(⟨t147, t148, t149⟩ : S67), (⟨t150, t151, t152⟩ : S67), (⟨t153, t154, t155⟩ : S67)] : List (S67))) := ⟨_, rfl⟩
        replace H : (if x3_5.length + y156.length < 4398046511104 then (some (x3_5 ++ y156)) else (none)) = some r := by first | (rw [hy156]; with_reducible exact H) | (have H2_ := (Option.bind_some _ _).symm.trans H; rw [hy156]; with_reducible exact H2_) | (have H2_ := (Option.bind_some _ _).symm.trans H; with_reducible exact H2_) | with_reducible exact H | (rw [hy156]; exact H) | exact H
        have Ny156 := Aside0.mk hy156
        clear hy156
        by_cases c36 : x3_5.length + y156.length < 4398046511104
        · rw [if_pos c36] at H
          have LMc36 := Aside0.mk c36
          clear c36
          obtain ⟨y159, hy159⟩ : ∃ y_ : List (S67), y_ = (x3_5 ++ y156) := ⟨_, rfl⟩
          replace H : (some y159) = some r := by first | (rw [hy159]; with_reducible exact H) | (have H2_ := (Option.bind_some _ _).symm.trans H; rw [hy159]; with_reducible exact H2_) | (have H2_ := (Option.bind_some _ _).symm.trans H; with_reducible exact H2_) | with_reducible exact H | (rw [hy159]; exact H) | exact H
          have Ny159 := Aside0.mk hy159
          clear hy159
          obtain rfl := Option.some.inj H
          have hcz37_0 : wc.cell? ⟨gb113, 0, none⟩ = some (.int .i64 a0_0) := (blk_cell BK113.out 0).trans rfl
          have hcz37_1 : wc.cell? ⟨gb113, 1, none⟩ = some (.int .u64 a0_1) := (blk_cell BK113.out 1).trans rfl
          have hcz37_2 : wc.cell? ⟨gb113, 2, none⟩ = some (.int .u64 a0_2) := (blk_cell BK113.out 2).trans rfl
          have hcz37_3 : wc.cell? ⟨gb113, 3, none⟩ = some (.int .u64 a0_3) := (blk_cell BK113.out 3).trans rfl
          have hcz37_4 : wc.cell? ⟨gb113, 4, none⟩ = some (.string a0_4) := (blk_cell BK113.out 4).trans rfl
          have hcz37_5 : wc.cell? ⟨gb113, 5, none⟩ = some (.string a0_5) := (blk_cell BK113.out 5).trans rfl
          have hcz37_6 : wc.cell? ⟨gb113, 6, none⟩ = some (.int .u64 a0_6) := (blk_cell BK113.out 6).trans rfl
          have hcz37_7 : wc.cell? ⟨gb113, 7, none⟩ = some (.int .u64 a0_7) := (blk_cell BK113.out 7).trans rfl
          have hcz37_8 : wc.cell? ⟨gb113, 8, none⟩ = some (.string a0_8) := (blk_cell BK113.out 8).trans rfl
          have hcz37_9 : wc.cell? ⟨gb113, 9, none⟩ = some (.int .u64 a0_9) := (blk_cell BK113.out 9).trans rfl
          have hcz37_10 : wc.cell? ⟨gb113, 10, none⟩ = some (.int .u64 a0_10) := (blk_cell BK113.out 10).trans rfl
          have hcz37_11 : wc.cell? ⟨gb113, 11, none⟩ = some (.string a0_11) := (blk_cell BK113.out 11).trans rfl
          have hcz37_12 : wc.cell? ⟨gb113, 12, none⟩ = some (.slice A0_12 l0_12.length c0_12) := (blk_cell BK113.out 12).trans rfl
          have hfz37_0 := blk_frozen BK113.out 0
          have hfz37_1 := blk_frozen BK113.out 1
          have hfz37_2 := blk_frozen BK113.out 2
          have hfz37_3 := blk_frozen BK113.out 3
          have hfz37_4 := blk_frozen BK113.out 4
          have hfz37_5 := blk_frozen BK113.out 5
          have hfz37_6 := blk_frozen BK113.out 6
          have hfz37_7 := blk_frozen BK113.out 7
          have hfz37_8 := blk_frozen BK113.out 8
          have hfz37_9 := blk_frozen BK113.out 9
          have hfz37_10 := blk_frozen BK113.out 10
          have hfz37_11 := blk_frozen BK113.out 11
          have hfz37_12 := blk_frozen BK113.out 12
          try go_wp2
          have n0_ := Aside0.mk (Kd.R_drew HO_3.out)
          have n1_ := Aside0.mk (blk_drew BK113.out)
          have n2_ := Aside0.mk (below_drew1 HB.out)
          clear HO_3
          clear BK113
          clear HB
          have HO_3 := n0_
          have BK113 := n1_
          have HB := n2_
          clear n0_ n1_ n2_
          refine start_ (n := 13) (S := fun w' => w'.cell? ⟨gb113, 0, none⟩ = some (.int .i64 a0_0) ∧ w'.cell? ⟨gb113, 1, none⟩ = some (.int .u64 a0_1) ∧ w'.cell? ⟨gb113, 2, none⟩ = some (.int .u64 a0_2) ∧ w'.cell? ⟨gb113, 3, none⟩ = some (.int .u64 a0_3) ∧ w'.cell? ⟨gb113, 4, none⟩ = some (.string a0_4) ∧ w'.cell? ⟨gb113, 5, none⟩ = some (.string a0_5) ∧ w'.cell? ⟨gb113, 6, none⟩ = some (.int .u64 a0_6) ∧ w'.cell? ⟨gb113, 7, none⟩ = some (.int .u64 a0_7) ∧ w'.cell? ⟨gb113, 8, none⟩ = some (.string a0_8) ∧ w'.cell? ⟨gb113, 9, none⟩ = some (.int .u64 a0_9) ∧ w'.cell? ⟨gb113, 10, none⟩ = some (.int .u64 a0_10) ∧ w'.cell? ⟨gb113, 11, none⟩ = some (.string a0_11) ∧ w'.cell? ⟨gb113, 12, none⟩ = some (.slice A0_12 l0_12.length c0_12)) (ds := []) #[false, false, false, false, false, false, false, false, false, false, false, false, false] (by kernel_rfl) rfl rfl ⟨(blk_cell BK113.out 0).trans rfl, (blk_cell BK113.out 1).trans rfl, (blk_cell BK113.out 2).trans rfl, (blk_cell BK113.out 3).trans rfl, (blk_cell BK113.out 4).trans rfl, (blk_cell BK113.out 5).trans rfl, (blk_cell BK113.out 6).trans rfl, (blk_cell BK113.out 7).trans rfl, (blk_cell BK113.out 8).trans rfl, (blk_cell BK113.out 9).trans rfl, (blk_cell BK113.out 10).trans rfl, (blk_cell BK113.out 11).trans rfl, (blk_cell BK113.out 12).trans rfl⟩ (fun hHeld => ?_); refine with_tabW frame_head.tab5 frame_head.bits5 (fun HT_ HW_ => ?_)
          generalize wc.drew = w38 at HO_3 BK113 HB hHeld ⊢
          refine pure_ (i := 0) (N := some 39) (v := ?_) (a' := ?_) #[true, false, false, false, false, false, false, false, false, false, false, false, false] rfl rfl (any_of HT_.out (by kernel_rfl)) (fun _ _ _ h => h) (Or.inl ⟨by rfl, ?_⟩) ?_ ?_
          rotate_left
          · intro w'
            go_simp
            with_reducible rfl
          rotate_left
          · simp only [Act.put, List.setIfInBounds_toArray, List.set_cons_zero, List.set_cons_succ, i64_w, i32_w]
            rfl
          refine pure_ (i := 1) (N := some 40) (v := ?_) (a' := ?_) #[true, true, false, false, false, false, false, false, false, false, false, false, false] rfl rfl (any_of HT_.out (by kernel_rfl)) (fun _ _ _ h => h) (Or.inl ⟨by rfl, ?_⟩) ?_ ?_
          rotate_left
          · intro w'
            go_simp
            with_reducible rfl
          rotate_left
          · simp only [Act.put, List.setIfInBounds_toArray, List.set_cons_zero, List.set_cons_succ, i64_w, i32_w]
            rfl
          refine pure_ (i := 4) (N := some 43) (v := ?_) (a' := ?_) #[true, true, false, false, true, false, false, false, false, false, false, false, false] rfl rfl (any_of HT_.out (by kernel_rfl)) (fun _ _ _ h => h) (Or.inl ⟨by rfl, ?_⟩) ?_ ?_
          rotate_left
          · intro w'
            go_simp
            with_reducible rfl
          rotate_left
          · simp only [Act.put, List.setIfInBounds_toArray, List.set_cons_zero, List.set_cons_succ, i64_w, i32_w]
            rfl
          refine pure_ (i := 7) (N := some 46) (v := ?_) (a' := ?_) #[true, true, false, false, true, false, false, true, false, false, false, false, false] rfl rfl (any_of HT_.out (by kernel_rfl)) (fun _ _ _ h => h) (Or.inl ⟨by rfl, ?_⟩) ?_ ?_
          rotate_left
          · intro w'
            go_simp
            with_reducible rfl
          rotate_left
          · simp only [Act.put, List.setIfInBounds_toArray, List.set_cons_zero, List.set_cons_succ, i64_w, i32_w]
            rfl
          refine take_ (i := 2) (N := some 41) (v := ?_) (a' := ?_) #[true, true, true, false, true, false, false, true, false, false, false, false, false] rfl rfl (take_ofW HT_.out HW_.out (by kernel_rfl)) (fun _ _ _ h => h) (Or.inl ⟨by rfl, ?_⟩) hHeld ?_ ?_
          rotate_left
          · rintro w' ⟨s0, s1, s2, s3, s4, s5, s6, s7, s8, s9, s10, s11, s12⟩
            go_simp
            with_reducible rfl
          rotate_left
          · simp only [Act.put, List.setIfInBounds_toArray, List.set_cons_zero, List.set_cons_succ, i64_w, i32_w]
            rfl
          refine take_ (i := 5) (N := some 44) (v := ?_) (a' := ?_) #[true, true, true, false, true, true, false, true, false, false, false, false, false] rfl rfl (take_ofW HT_.out HW_.out (by kernel_rfl)) (fun _ _ _ h => h) (Or.inl ⟨by rfl, ?_⟩) hHeld ?_ ?_
          rotate_left
          · rintro w' ⟨s0, s1, s2, s3, s4, s5, s6, s7, s8, s9, s10, s11, s12⟩
            go_simp
            with_reducible rfl
          rotate_left
          · simp only [Act.put, List.setIfInBounds_toArray, List.set_cons_zero, List.set_cons_succ, i64_w, i32_w]
            rfl
          refine take_ (i := 8) (N := some 47) (v := ?_) (a' := ?_) #[true, true, true, false, true, true, false, true, true, false, false, false, false] rfl rfl (take_ofW HT_.out HW_.out (by kernel_rfl)) (fun _ _ _ h => h) (Or.inl ⟨by rfl, ?_⟩) hHeld ?_ ?_
          rotate_left
          · rintro w' ⟨s0, s1, s2, s3, s4, s5, s6, s7, s8, s9, s10, s11, s12⟩
            go_simp
            with_reducible rfl
          rotate_left
          · simp only [Act.put, List.setIfInBounds_toArray, List.set_cons_zero, List.set_cons_succ, i64_w, i32_w]
            rfl
          refine one_ (i := 3) (N := some 42) #[true, true, true, true, true, true, false, true, true, false, false, false, false] rfl rfl (one_of HT_.out (by kernel_rfl)) (by decide) (fun K hK => ?_)
          refine goes_ Try.func44 (by kernel_rfl) rfl #[.string a0_8] (by rfl) rfl rfl (by (try simp only [List.map_toArray, List.map_cons, List.map_nil]); first | done | rfl | (simp only [List.length_drop, List.length_take]; rfl)) ?_
          with_reducible refine (frame_text.calls a0_8 t147 t148 t149 _ A33.out).mono ?_
          rintro e w39 ⟨rfl, hb⟩
          refine ⟨_, rfl, ?_⟩
          have n0_ := Aside0.mk (Kd.R_below (by (with_reducible repeat (first | apply Kd.R_alloc | apply Kd.R_drewN | apply Kd.R_drew)); exact HO_3.out) hb)
          have n1_ := Aside0.mk (blk_below (g := gb113) (o := .cells #[.int .i64 a0_0, .int .u64 a0_1, .int .u64 a0_2, .int .u64 a0_3, .string a0_4, .string a0_5, .int .u64 a0_6, .int .u64 a0_7, .string a0_8, .int .u64 a0_9, .int .u64 a0_10, .string a0_11, .slice A0_12 l0_12.length c0_12] 25 (0, 0)) (by (with_reducible repeat (first | refine blk_drewN ?_ _ | refine blk_drew ?_ | refine blk_alloc ?_ _)); exact BK113.out) hb)
          have n2_ := Aside0.mk (below_step (by repeat (first | (with_reducible first | exact HB.out | apply below_alloc | apply pw_below_drewN | apply below_drew1 | refine below_set ?_ GE113.out) | exact HB.out)) hb)
          clear HO_3
          clear BK113
          clear HB
          have HO_3 := n0_
          have BK113 := n1_
          have HB := n2_
          clear n0_ n1_ n2_
          (try clear hb)
          (try clear hb2)
          (try clear hk)
          (try clear hi)
          refine hK.out _ _ ⟨(blk_cell BK113.out 0).trans rfl, (blk_cell BK113.out 1).trans rfl, (blk_cell BK113.out 2).trans rfl, (blk_cell BK113.out 3).trans rfl, (blk_cell BK113.out 4).trans rfl, (blk_cell BK113.out 5).trans rfl, (blk_cell BK113.out 6).trans rfl, (blk_cell BK113.out 7).trans rfl, (blk_cell BK113.out 8).trans rfl, (blk_cell BK113.out 9).trans rfl, (blk_cell BK113.out 10).trans rfl, (blk_cell BK113.out 11).trans rfl, (blk_cell BK113.out 12).trans rfl⟩ (fun hHeld => ?_)
          clear hK K
          refine norm_ (a' := ?_) ?_ ?_
          rotate_left
          · show Act.put _ (some 42) _ = _
            simp only [Act.put, List.setIfInBounds_toArray, List.set_cons_zero, List.set_cons_succ, i64_w, i32_w]
            rfl
          refine one_ (i := 6) (N := some 45) #[true, true, true, true, true, true, true, true, true, false, false, false, false] rfl rfl (one_of HT_.out (by kernel_rfl)) (by decide) (fun K hK => ?_)
          refine goes_ Try.func45 (by kernel_rfl) rfl #[.int .u64 a0_9] (by rfl) rfl rfl (by (try simp only [List.map_toArray, List.map_cons, List.map_nil]); first | done | rfl | (simp only [List.length_drop, List.length_take]; rfl)) ?_
          with_reducible refine (frame_number.calls a0_9 t150 t151 t152 _ A34.out).mono ?_
          rintro e w40 ⟨rfl, hb⟩
          refine ⟨_, rfl, ?_⟩
          have n0_ := Aside0.mk (Kd.R_below (by (with_reducible repeat (first | apply Kd.R_alloc | apply Kd.R_drewN | apply Kd.R_drew)); exact HO_3.out) hb)
          have n1_ := Aside0.mk (blk_below (g := gb113) (o := .cells #[.int .i64 a0_0, .int .u64 a0_1, .int .u64 a0_2, .int .u64 a0_3, .string a0_4, .string a0_5, .int .u64 a0_6, .int .u64 a0_7, .string a0_8, .int .u64 a0_9, .int .u64 a0_10, .string a0_11, .slice A0_12 l0_12.length c0_12] 25 (0, 0)) (by (with_reducible repeat (first | refine blk_drewN ?_ _ | refine blk_drew ?_ | refine blk_alloc ?_ _)); exact BK113.out) hb)
          have n2_ := Aside0.mk (below_step (by repeat (first | (with_reducible first | exact HB.out | apply below_alloc | apply pw_below_drewN | apply below_drew1 | refine below_set ?_ GE113.out) | exact HB.out)) hb)
          clear HO_3
          clear BK113
          clear HB
          have HO_3 := n0_
          have BK113 := n1_
          have HB := n2_
          clear n0_ n1_ n2_
          (try clear hb)
          (try clear hb2)
          (try clear hk)
          (try clear hi)
          refine hK.out _ _ ⟨(blk_cell BK113.out 0).trans rfl, (blk_cell BK113.out 1).trans rfl, (blk_cell BK113.out 2).trans rfl, (blk_cell BK113.out 3).trans rfl, (blk_cell BK113.out 4).trans rfl, (blk_cell BK113.out 5).trans rfl, (blk_cell BK113.out 6).trans rfl, (blk_cell BK113.out 7).trans rfl, (blk_cell BK113.out 8).trans rfl, (blk_cell BK113.out 9).trans rfl, (blk_cell BK113.out 10).trans rfl, (blk_cell BK113.out 11).trans rfl, (blk_cell BK113.out 12).trans rfl⟩ (fun hHeld => ?_)
          clear hK K
          refine norm_ (a' := ?_) ?_ ?_
          rotate_left
          · show Act.put _ (some 45) _ = _
            simp only [Act.put, List.setIfInBounds_toArray, List.set_cons_zero, List.set_cons_succ, i64_w, i32_w]
            rfl
          refine one_ (i := 9) (N := some 48) #[true, true, true, true, true, true, true, true, true, true, false, false, false] rfl rfl (one_of HT_.out (by kernel_rfl)) (by decide) (fun K hK => ?_)
          refine goes_ Try.func45 (by kernel_rfl) rfl #[.int .u64 a0_10] (by rfl) rfl rfl (by (try simp only [List.map_toArray, List.map_cons, List.map_nil]); first | done | rfl | (simp only [List.length_drop, List.length_take]; rfl)) ?_
          with_reducible refine (frame_number.calls a0_10 t153 t154 t155 _ A35.out).mono ?_
          rintro e w41 ⟨rfl, hb⟩
          refine ⟨_, rfl, ?_⟩
          have n0_ := Aside0.mk (Kd.R_below (by (with_reducible repeat (first | apply Kd.R_alloc | apply Kd.R_drewN | apply Kd.R_drew)); exact HO_3.out) hb)
          have n1_ := Aside0.mk (blk_below (g := gb113) (o := .cells #[.int .i64 a0_0, .int .u64 a0_1, .int .u64 a0_2, .int .u64 a0_3, .string a0_4, .string a0_5, .int .u64 a0_6, .int .u64 a0_7, .string a0_8, .int .u64 a0_9, .int .u64 a0_10, .string a0_11, .slice A0_12 l0_12.length c0_12] 25 (0, 0)) (by (with_reducible repeat (first | refine blk_drewN ?_ _ | refine blk_drew ?_ | refine blk_alloc ?_ _)); exact BK113.out) hb)
          have n2_ := Aside0.mk (below_step (by repeat (first | (with_reducible first | exact HB.out | apply below_alloc | apply pw_below_drewN | apply below_drew1 | refine below_set ?_ GE113.out) | exact HB.out)) hb)
          clear HO_3
          clear BK113
          clear HB
          have HO_3 := n0_
          have BK113 := n1_
          have HB := n2_
          clear n0_ n1_ n2_
          (try clear hb)
          (try clear hb2)
          (try clear hk)
          (try clear hi)
          refine hK.out _ _ ⟨(blk_cell BK113.out 0).trans rfl, (blk_cell BK113.out 1).trans rfl, (blk_cell BK113.out 2).trans rfl, (blk_cell BK113.out 3).trans rfl, (blk_cell BK113.out 4).trans rfl, (blk_cell BK113.out 5).trans rfl, (blk_cell BK113.out 6).trans rfl, (blk_cell BK113.out 7).trans rfl, (blk_cell BK113.out 8).trans rfl, (blk_cell BK113.out 9).trans rfl, (blk_cell BK113.out 10).trans rfl, (blk_cell BK113.out 11).trans rfl, (blk_cell BK113.out 12).trans rfl⟩ (fun hHeld => ?_)
          clear hK K
          refine norm_ (a' := ?_) ?_ ?_
          rotate_left
          · show Act.put _ (some 48) _ = _
            simp only [Act.put, List.setIfInBounds_toArray, List.set_cons_zero, List.set_cons_succ, i64_w, i32_w]
            rfl
          refine one_ (i := 10) (N := some 49) #[true, true, true, true, true, true, true, true, true, true, true, false, false] rfl rfl (one_of HT_.out (by kernel_rfl)) (by decide) (fun K hK => ?_)
          refine Kd.R_lit_step k67 _ 67 ?hg (N := 49) ?hd (xs := ([(⟨t147, t148, t149⟩ : S67), (⟨t150, t151, t152⟩ : S67), (⟨t153, t154, t155⟩ : S67)] : List (S67))) (inner := [.bool t147, .int .u64 t148, .string t149, .bool t150, .int .u64 t151, .string t152, .bool t153, .int .u64 t154, .string t155]) (ok := fun _ => True) (okp := fun _ => True) ?hr ?hp (fun _ hk => hk) trivial (Below.refl _ _) (Nat.le_refl _) (by simp) ?_; (case hd => rfl); (case hg => rfl); (case hr => first | (go_simp; done) | (go_simp; rfl)); (case hp => exact (Reps.c3 (show Kd.M k67 _ _ _ (⟨t147, t148, t149⟩ : S67) [.bool t147, .int .u64 t148, .string t149] from (k67_mkM _ _ _ (⟨t147, t148, t149⟩ : S67) )) (Reps.c3 (show Kd.M k67 _ _ _ (⟨t150, t151, t152⟩ : S67) [.bool t150, .int .u64 t151, .string t152] from (k67_mkM _ _ _ (⟨t150, t151, t152⟩ : S67) )) (Reps.c3 (show Kd.M k67 _ _ _ (⟨t153, t154, t155⟩ : S67) [.bool t153, .int .u64 t154, .string t155] from (k67_mkM _ _ _ (⟨t153, t154, t155⟩ : S67) )) (Reps.none _ _)))))
          intro v157 w42 ho43 hb hg_ hnew_
          clear hg_ hnew_
          (first | rw [← Ny156.out] at ho43 | (simp only [Int.reduceToNat] at ho43; rw [← Ny156.out] at ho43))
          have n0_ := Aside0.mk (Kd.R_elder' (by (with_reducible repeat (first | apply Kd.R_alloc | apply Kd.R_drewN | apply Kd.R_drew)); exact HO_3.out) (Kd.R_base ho43) hb)
          have n1_ := Aside0.mk (Kd.R_lower (Kd.R_new' ho43 (Kd.R_lt (by (with_reducible repeat (first | apply Kd.R_alloc | apply Kd.R_drewN | apply Kd.R_drew)); exact HO_3.out))) (below_size (by repeat (first | (with_reducible first | exact HB.out | apply below_alloc | apply pw_below_drewN | apply below_drew1 | refine below_set ?_ GE113.out) | exact HB.out))))
          have n2_ := Aside0.mk (blk_below (g := gb113) (o := .cells #[.int .i64 a0_0, .int .u64 a0_1, .int .u64 a0_2, .int .u64 a0_3, .string a0_4, .string a0_5, .int .u64 a0_6, .int .u64 a0_7, .string a0_8, .int .u64 a0_9, .int .u64 a0_10, .string a0_11, .slice A0_12 l0_12.length c0_12] 25 (0, 0)) (by (with_reducible repeat (first | refine blk_drewN ?_ _ | refine blk_drew ?_ | refine blk_alloc ?_ _)); exact BK113.out) hb)
          have n3_ := Aside0.mk (below_step (by repeat (first | (with_reducible first | exact HB.out | apply below_alloc | apply pw_below_drewN | apply below_drew1 | refine below_set ?_ GE113.out) | exact HB.out)) hb)
          clear HO_3
          clear BK113
          clear HB
          have HO_3 := n0_
          have HO158 := n1_
          have BK113 := n2_
          have HB := n3_
          clear n0_ n1_ n2_ n3_
          clear hb ho43
          obtain ⟨Ao45, co45, eo45⟩ := Kd.R_slice HO158.out
          (first | subst eo45 | (injection eo45 with f1_ f2_ f3_; have f4_ := f1_.symm; have f5_ := f3_.symm; clear f1_ f2_ f3_; subst f4_; subst f5_))
          refine hK.out _ _ ⟨(blk_cell BK113.out 0).trans rfl, (blk_cell BK113.out 1).trans rfl, (blk_cell BK113.out 2).trans rfl, (blk_cell BK113.out 3).trans rfl, (blk_cell BK113.out 4).trans rfl, (blk_cell BK113.out 5).trans rfl, (blk_cell BK113.out 6).trans rfl, (blk_cell BK113.out 7).trans rfl, (blk_cell BK113.out 8).trans rfl, (blk_cell BK113.out 9).trans rfl, (blk_cell BK113.out 10).trans rfl, (blk_cell BK113.out 11).trans rfl, (blk_cell BK113.out 12).trans rfl⟩ (fun hHeld => ?_)
          clear hK K
          refine norm_ (a' := ?_) ?_ ?_
          rotate_left
          · show Act.put _ (some 49) _ = _
            simp only [Act.put, List.setIfInBounds_toArray, List.set_cons_zero, List.set_cons_succ, i64_w, i32_w]
            rfl
          refine one_ (i := 11) (N := some 50) #[true, true, true, true, true, true, true, true, true, true, true, true, false] rfl rfl (one_of HT_.out (by kernel_rfl)) (by decide) (fun K hK => ?_)
          refine Kd.R_append_rows_step k67 (w0 := w) w.heap.size (by rfl) (.tmp 39) (.tmp 49) 48 67 (.agg #[(.bool false), (.int .u64 0), (.string ⟨#[]⟩)]) 32 rfl Try.underlying48 info67 rfl (by decide) (by omega) u3 x3_5 y156 _ _ _ (fun k_ => some k_ ≠ (.slice Ao45 y156.length co45 : Value).ownBlock) (fun _ => False) rfl rfl ?aO ?aR (fun _ _ h => h) (fun _ h => h.elim) ?aF ?aB ?aS ?aL ?_
          (case aR => repeat (first | exact (Kd.R_reads' HO158.out).2.2 | (with_reducible refine Kd.C_alloc ?_ _) | (with_reducible refine Kd.C_drewN ?_ _) | (with_reducible refine Kd.C_drew ?_)))
          (case aB => exact (by repeat (first | (with_reducible first | exact HB.out | apply below_alloc | apply pw_below_drewN | apply below_drew1 | refine below_set ?_ GE113.out) | exact HB.out)))
          (case aF => exact (fun k_ hk => Kd.fresh' (Kd.R_lt (by (with_reducible repeat (first | apply Kd.R_alloc | apply Kd.R_drewN | apply Kd.R_drew)); exact HO158.out)) k_ hk))
          (case aO => exact (by (with_reducible repeat (first | apply Kd.R_alloc | apply Kd.R_drewN | apply Kd.R_drew)); exact Kd.R_mono HO_3.out (fun _ hk => hk.2)))
          (case aS => exact (below_size (by repeat (first | (with_reducible first | exact HB.out | apply below_alloc | apply pw_below_drewN | apply below_drew1 | refine below_set ?_ GE113.out) | exact HB.out))))
          (case aL => have := LMc36.out; omega)
          intro v160 w44 ho hb hg hat
          rw [← Ny159.out] at ho
          have n0_ := Aside0.mk (blk_grown (g := gb113) (o := .cells #[.int .i64 a0_0, .int .u64 a0_1, .int .u64 a0_2, .int .u64 a0_3, .string a0_4, .string a0_5, .int .u64 a0_6, .int .u64 a0_7, .string a0_8, .int .u64 a0_9, .int .u64 a0_10, .string a0_11, .slice A0_12 l0_12.length c0_12] 25 (0, 0)) (by (with_reducible repeat (first | refine blk_drewN ?_ _ | refine blk_drew ?_ | refine blk_alloc ?_ _)); exact BK113.out) hg (Kd.R_ne HO_3.out BK113.out (by decide)))
          have n1_ := Aside0.mk (Kd.R_after (ok := (fun _ => True)) (by (with_reducible repeat (first | apply Kd.R_alloc | apply Kd.R_drewN | apply Kd.R_drew)); exact HO158.out) hg hat)
          have n2_ := Aside0.mk (hb)
          have n3_ := Aside0.mk (ho)
          clear BK113
          clear HO158
          clear HB
          clear HO_3
          have BK113 := n0_
          have HO158 := n1_
          have HB := n2_
          have HO161 := n3_
          clear n0_ n1_ n2_ n3_
          clear ho hb hg hat
          refine hK.out _ _ ⟨(blk_cell BK113.out 0).trans rfl, (blk_cell BK113.out 1).trans rfl, (blk_cell BK113.out 2).trans rfl, (blk_cell BK113.out 3).trans rfl, (blk_cell BK113.out 4).trans rfl, (blk_cell BK113.out 5).trans rfl, (blk_cell BK113.out 6).trans rfl, (blk_cell BK113.out 7).trans rfl, (blk_cell BK113.out 8).trans rfl, (blk_cell BK113.out 9).trans rfl, (blk_cell BK113.out 10).trans rfl, (blk_cell BK113.out 11).trans rfl, (blk_cell BK113.out 12).trans rfl⟩ (fun hHeld => ?_)
          clear hK K
          refine norm_ (a' := ?_) ?_ ?_
          rotate_left
          · show Act.put _ (some 50) _ = _
            simp only [Act.put, List.setIfInBounds_toArray, List.set_cons_zero, List.set_cons_succ, i64_w, i32_w]
            rfl
          refine pure_ (i := 12) (N := some 3) (v := ?_) (a' := ?_) #[true, true, true, true, true, true, true, true, true, true, true, true, true] rfl rfl (any_of HT_.out (by kernel_rfl)) (fun _ _ _ h => h) (Or.inl ⟨by rfl, ?_⟩) ?_ ?_
          rotate_left
          · intro w'
            go_simp
            with_reducible rfl
          rotate_left
          · simp only [Act.put, List.setIfInBounds_toArray, List.set_cons_zero, List.set_cons_succ, i64_w, i32_w]
            rfl
          refine done_ (done_of HT_.out (by kernel_rfl)) ?_
          try go_wp2
          go_ret
          exact ⟨_, by first | rfl | (simp [errW_none, errW_some] <;> rfl) | (simp [*, errW_none, errW_some] <;> rfl), by (with_reducible repeat (first | apply Kd.R_alloc | apply Kd.R_drewN | apply Kd.R_drew)); exact Kd.R_mono HO161.out (fun _ hk => trivial), by repeat (first | (with_reducible first | exact HB.out | apply below_alloc | apply pw_below_drewN | apply below_drew1 | refine below_set ?_ GE113.out) | exact HB.out)⟩
        · rw [if_neg c36] at H
          exact absurd H (by simp)

/-! ### frame_parts: function 24 -/
def frame_parts.l0 : Nat → List (S67) → List ByteArray → Int → Int → Option ((List (S67)))
  | 0, _, _, _, _ => none
  | k + 1, x3, x26, x27, x28 => if x28 < x27 then (if 0 ≤ x28 then (if x28 < (x26.length : Int) then ((frame_text.f (rdOf ByteArray.empty x26 x28)).bind fun bt179 => (if x3.length < 4398046511104 then (frame_parts.l0 k (x3 ++ [(⟨bt179.1, bt179.2.1, bt179.2.2⟩ : S67)]) x26 x27 (wrap64 (x28 + 1))) else (none))) else (none)) else (none)) else (some x3)
def frame_parts.f (k : Nat) (a0_0 : Int) (a0_1 : Int) (a0_2 : Int) (a0_3 : Int) (a0_4 : ByteArray) (a0_5 : ByteArray) (a0_6 : Int) (a0_7 : Int) (a0_8 : ByteArray) (a0_9 : Int) (a0_10 : Int) (a0_11 : ByteArray) (l0_12 : List ByteArray) : Option ((List (S67))) := (frame_head.f k a0_0 a0_1 a0_2 a0_3 a0_4 a0_5 a0_6 a0_7 a0_8 a0_9 a0_10 a0_11 l0_12).bind fun t163 => (if a0_0 = 2 then ((frame_number.f (IntKind.u64.wrap ((l0_12.length : Int)))).bind fun bt172 => (if t163.length < 4398046511104 then (frame_parts.l0 k (t163 ++ [(⟨bt172.1, bt172.2.1, bt172.2.2⟩ : S67)]) l0_12 (l0_12.length : Int) 0) else (none))) else ((frame_text.f a0_11).bind fun bt166 => (if t163.length < 4398046511104 then (some (t163 ++ [(⟨bt166.1, bt166.2.1, bt166.2.2⟩ : S67)])) else (none))))
theorem frame_parts.mono_l : ∀ k, (∀ y0 y1 y2 y3, LeO (frame_parts.l0 k y0 y1 y2 y3) (frame_parts.l0 (k + 1) y0 y1 y2 y3))
  | 0 => fun _ _ _ _ r h => by simp [frame_parts.l0] at h
  | k + 1 => by
    have ih0 := frame_parts.mono_l k
    · intro y0 y1 y2 y3
      unfold frame_parts.l0
      repeat' first
      | (with_reducible exact ih0 _ _ _ _)
      | (with_reducible exact frame_head.mono _ _ _ _ _ _ _ _ _ _ _ _ _ _)
      | (with_reducible exact LeO.refl _)
      | (with_reducible exact LeO.none _)
      | (with_reducible refine LeO.ite ?_ ?_)
      | (with_reducible refine LeO.bind ?_ (fun _ => ?_))
      | exact ih0 _ _ _ _
      | exact frame_head.mono _ _ _ _ _ _ _ _ _ _ _ _ _ _
      | exact LeO.none _
      | refine LeO.ite ?_ ?_
      | refine LeO.bind ?_ (fun _ => ?_)
theorem frame_parts.mono : ∀ a0 a1 a2 a3 a4 a5 a6 a7 a8 a9 a10 a11 a12 k, LeO (frame_parts.f k a0 a1 a2 a3 a4 a5 a6 a7 a8 a9 a10 a11 a12) (frame_parts.f (k + 1) a0 a1 a2 a3 a4 a5 a6 a7 a8 a9 a10 a11 a12) := by
  intro a0 a1 a2 a3 a4 a5 a6 a7 a8 a9 a10 a11 a12 k
  have ih0 := frame_parts.mono_l k
  unfold frame_parts.f
  repeat' first
      | (with_reducible exact ih0 _ _ _ _)
      | (with_reducible exact frame_head.mono _ _ _ _ _ _ _ _ _ _ _ _ _ _)
      | (with_reducible exact LeO.refl _)
      | (with_reducible exact LeO.none _)
      | (with_reducible refine LeO.ite ?_ ?_)
      | (with_reducible refine LeO.bind ?_ (fun _ => ?_))
      | exact ih0 _ _ _ _
      | exact frame_head.mono _ _ _ _ _ _ _ _ _ _ _ _ _ _
      | exact LeO.none _
      | refine LeO.ite ?_ ?_
      | refine LeO.bind ?_ (fun _ => ?_)
set_option maxHeartbeats 8000000 in
set_option maxRecDepth 100000 in
theorem frame_parts.calls (k : Nat) (a0_0 : Int) (a0_1 : Int) (a0_2 : Int) (a0_3 : Int) (a0_4 : ByteArray) (a0_5 : ByteArray) (a0_6 : Int) (a0_7 : Int) (a0_8 : ByteArray) (a0_9 : Int) (a0_10 : Int) (a0_11 : ByteArray) (A0_12 : Option Addr) (c0_12 : Nat) (l0_12 : List ByteArray) (r : List (S67)) (w : World) (hr0_12 : Kd.C Kd.string w A0_12 l0_12.length l0_12) (hc0_12 : l0_12.length ≤ c0_12) (h : frame_parts.f k a0_0 a0_1 a0_2 a0_3 a0_4 a0_5 a0_6 a0_7 a0_8 a0_9 a0_10 a0_11 l0_12 = some r) :
    Calls Try.prog 24 #[.agg #[.int .i64 a0_0, .int .u64 a0_1, .int .u64 a0_2, .int .u64 a0_3, .string a0_4, .string a0_5, .int .u64 a0_6, .int .u64 a0_7, .string a0_8, .int .u64 a0_9, .int .u64 a0_10, .string a0_11, .slice A0_12 l0_12.length c0_12]] w fun e w' => ∃ v0_ : Value, e = .returned (v0_) ∧ Kd.R k67 67 w' w.heap.size (fun _ => True) v0_ r ∧ Below w.heap.size w w' := by
  have hu25 := Try.underlying25
  have HR0_12 := Aside0.mk hr0_12
  have HC0_12 := Aside0.mk hc0_12
  clear hr0_12 hc0_12
  have HB := Aside0.mk (Below.refl w.heap.size w)
  have H : ((frame_head.f k a0_0 a0_1 a0_2 a0_3 a0_4 a0_5 a0_6 a0_7 a0_8 a0_9 a0_10 a0_11 l0_12).bind fun t163 => (if a0_0 = 2 then ((frame_number.f (IntKind.u64.wrap ((l0_12.length : Int)))).bind fun bt172 => (if t163.length < 4398046511104 then (frame_parts.l0 k (t163 ++ [(⟨bt172.1, bt172.2.1, bt172.2.2⟩ : S67)]) l0_12 (l0_12.length : Int) 0) else (none))) else ((frame_text.f a0_11).bind fun bt166 => (if t163.length < 4398046511104 then (some (t163 ++ [(⟨bt166.1, bt166.2.1, bt166.2.2⟩ : S67)])) else (none))))) = some r := h
  clear h
  replace H := Option.bind_eq_some_iff.mp H
  obtain ⟨t163, A20, H⟩ := H
  replace H : (if a0_0 = 2 then ((frame_number.f (IntKind.u64.wrap ((l0_12.length : Int)))).bind fun bt172 => (if t163.length < 4398046511104 then (frame_parts.l0 k (t163 ++ [(⟨bt172.1, bt172.2.1, bt172.2.2⟩ : S67)]) l0_12 (l0_12.length : Int) 0) else (none))) else ((frame_text.f a0_11).bind fun bt166 => (if t163.length < 4398046511104 then (some (t163 ++ [(⟨bt166.1, bt166.2.1, bt166.2.2⟩ : S67)])) else (none)))) = some r := H
  have A2 := Aside0.mk A20
  clear A20
  by_cases c3 : a0_0 = 2
  · rw [if_pos c3] at H
    have c3b0 : (a0_0 == 2) = true := beq_iff_eq.mpr c3
    have c3b1 : (a0_0 != 2) = false := bne_eq_false_iff_eq.mpr c3
    clear c3
    replace H := Option.bind_eq_some_iff.mp H
    obtain ⟨⟨t172, t173, t174⟩, A40, H⟩ := H
    replace H : (if t163.length < 4398046511104 then (frame_parts.l0 k (t163 ++ [(⟨t172, t173, t174⟩ : S67)]) l0_12 (l0_12.length : Int) 0) else (none)) = some r := H
    have A4 := Aside0.mk A40
    clear A40
    by_cases c5 : t163.length < 4398046511104
    · rw [if_pos c5] at H
      have LMc5 := Aside0.mk c5
      clear c5
      obtain ⟨y175, hy175⟩ : ∃ y_ : List (S67), y_ = (t163 ++ [(⟨t172, t173, t174⟩ : S67)]) := ⟨_, rfl⟩
      replace H : (frame_parts.l0 k y175 l0_12 (l0_12.length : Int) 0) = some r := by first | (rw [hy175]; with_reducible exact H) | (have H2_ := (Option.bind_some _ _).symm.trans H; rw [hy175]; with_reducible exact H2_) | (have H2_ := (Option.bind_some _ _).symm.trans H; with_reducible exact H2_) | with_reducible exact H | (rw [hy175]; exact H) | exact H
      have Ny175 := Aside0.mk hy175
      clear hy175
      have H' := Aside0.mk H
      clear H
      go_enter Try.func24, Try.ntmps24
      go_wp2_with (first | ((with_reducible refine gate_dst (N := 1) rfl ?_); refine box_event ?hg (N := 1) ?hd (cs := #[.int .i64 a0_0, .int .u64 a0_1, .int .u64 a0_2, .int .u64 a0_3, .string a0_4, .string a0_5, .int .u64 a0_6, .int .u64 a0_7, .string a0_8, .int .u64 a0_9, .int .u64 a0_10, .string a0_11, .slice A0_12 l0_12.length c0_12]) (t := 25) ?hr ?_; (case hd => rfl); (case hg => rfl); (case hr => first | (go_simp; done) | (go_simp; rfl)); intro gb162 hg w6 hbox hb; have n0_ := Aside0.mk (below_step (by repeat (first | (with_reducible first | exact HB.out | apply below_alloc | apply pw_below_drewN | apply below_drew1) | exact HB.out)) hb); have n1_ := Aside0.mk (hbox); have n2_ := Aside0.mk ((by rw [hg]; exact (below_size (by repeat (first | (with_reducible first | exact HB.out | apply below_alloc | apply pw_below_drewN | apply below_drew1) | exact HB.out))) : w.heap.size ≤ gb162)); have n3_ := Aside0.mk ((by rw [hg]; exact (below_size (by repeat (first | (with_reducible first | exact HB.out | apply below_alloc | apply pw_below_drewN | apply below_drew1) | exact HB.out))) : w.heap.size ≤ gb162)); clear HB; have HB := n0_; have BK162 := n1_; have GW162 := n2_; have GE162 := n3_; clear n0_ n1_ n2_ n3_; clear hb hbox hg; have hcz7_0 : w6.cell? ⟨gb162, 0, none⟩ = some (.int .i64 a0_0) := (blk_cell BK162.out 0).trans rfl; have hcz7_1 : w6.cell? ⟨gb162, 1, none⟩ = some (.int .u64 a0_1) := (blk_cell BK162.out 1).trans rfl; have hcz7_2 : w6.cell? ⟨gb162, 2, none⟩ = some (.int .u64 a0_2) := (blk_cell BK162.out 2).trans rfl; have hcz7_3 : w6.cell? ⟨gb162, 3, none⟩ = some (.int .u64 a0_3) := (blk_cell BK162.out 3).trans rfl; have hcz7_4 : w6.cell? ⟨gb162, 4, none⟩ = some (.string a0_4) := (blk_cell BK162.out 4).trans rfl; have hcz7_5 : w6.cell? ⟨gb162, 5, none⟩ = some (.string a0_5) := (blk_cell BK162.out 5).trans rfl; have hcz7_6 : w6.cell? ⟨gb162, 6, none⟩ = some (.int .u64 a0_6) := (blk_cell BK162.out 6).trans rfl; have hcz7_7 : w6.cell? ⟨gb162, 7, none⟩ = some (.int .u64 a0_7) := (blk_cell BK162.out 7).trans rfl; have hcz7_8 : w6.cell? ⟨gb162, 8, none⟩ = some (.string a0_8) := (blk_cell BK162.out 8).trans rfl; have hcz7_9 : w6.cell? ⟨gb162, 9, none⟩ = some (.int .u64 a0_9) := (blk_cell BK162.out 9).trans rfl; have hcz7_10 : w6.cell? ⟨gb162, 10, none⟩ = some (.int .u64 a0_10) := (blk_cell BK162.out 10).trans rfl; have hcz7_11 : w6.cell? ⟨gb162, 11, none⟩ = some (.string a0_11) := (blk_cell BK162.out 11).trans rfl; have hcz7_12 : w6.cell? ⟨gb162, 12, none⟩ = some (.slice A0_12 l0_12.length c0_12) := (blk_cell BK162.out 12).trans rfl; have hfz7_0 := blk_frozen BK162.out 0; have hfz7_1 := blk_frozen BK162.out 1; have hfz7_2 := blk_frozen BK162.out 2; have hfz7_3 := blk_frozen BK162.out 3; have hfz7_4 := blk_frozen BK162.out 4; have hfz7_5 := blk_frozen BK162.out 5; have hfz7_6 := blk_frozen BK162.out 6; have hfz7_7 := blk_frozen BK162.out 7; have hfz7_8 := blk_frozen BK162.out 8; have hfz7_9 := blk_frozen BK162.out 9; have hfz7_10 := blk_frozen BK162.out 10; have hfz7_11 := blk_frozen BK162.out 11; have hfz7_12 := blk_frozen BK162.out 12) | ((with_reducible refine gate_callee (f := 25) rfl ?_); refine goesL_ (some 7) rfl rfl Try.func25 (by kernel_rfl) rfl #[.agg #[.int .i64 a0_0, .int .u64 a0_1, .int .u64 a0_2, .int .u64 a0_3, .string a0_4, .string a0_5, .int .u64 a0_6, .int .u64 a0_7, .string a0_8, .int .u64 a0_9, .int .u64 a0_10, .string a0_11, .slice A0_12 l0_12.length c0_12]] rfl (by (try simp only [List.map_toArray, List.map_cons, List.map_nil]); first | done | rfl | (simp only [List.length_drop, List.length_take]; rfl)) ?_; (with_reducible refine (frame_head.calls k a0_0 a0_1 a0_2 a0_3 a0_4 a0_5 a0_6 a0_7 a0_8 a0_9 a0_10 a0_11 _ _ l0_12 t163 _ ?side1 ?side2 A2.out).mono ?_); (case side1 => repeat (first | exact (Kd.C_below HR0_12.out HB.out) | (with_reducible refine Kd.C_alloc ?_ _) | (with_reducible refine Kd.C_drewN ?_ _) | (with_reducible refine Kd.C_drew ?_))); (case side2 => exact HC0_12.out); rintro e w8 ⟨v164, rfl, ho0, hb⟩; refine ⟨_, rfl, ?_⟩; have n0_ := Aside0.mk (Kd.R_lower ho0 (below_size (by repeat (first | (with_reducible first | exact HB.out | apply below_alloc | apply pw_below_drewN | apply below_drew1 | refine below_set ?_ GE162.out) | exact HB.out)))); have n1_ := Aside0.mk (blk_below (g := gb162) (o := .cells #[.int .i64 a0_0, .int .u64 a0_1, .int .u64 a0_2, .int .u64 a0_3, .string a0_4, .string a0_5, .int .u64 a0_6, .int .u64 a0_7, .string a0_8, .int .u64 a0_9, .int .u64 a0_10, .string a0_11, .slice A0_12 l0_12.length c0_12] 25 (0, 0)) (by (with_reducible repeat (first | refine blk_drewN ?_ _ | refine blk_drew ?_ | refine blk_alloc ?_ _)); exact BK162.out) hb); have n2_ := Aside0.mk (below_step (by repeat (first | (with_reducible first | exact HB.out | apply below_alloc | apply pw_below_drewN | apply below_drew1 | refine below_set ?_ GE162.out) | exact HB.out)) hb); clear BK162; clear HB; have HO165 := n0_; have BK162 := n1_; have HB := n2_; clear n0_ n1_ n2_; (try clear hb); (try clear hb2); (try clear hk); (try clear hi); (try clear ho0); have hcz9_0 : w8.cell? ⟨gb162, 0, none⟩ = some (.int .i64 a0_0) := (blk_cell BK162.out 0).trans rfl; have hcz9_1 : w8.cell? ⟨gb162, 1, none⟩ = some (.int .u64 a0_1) := (blk_cell BK162.out 1).trans rfl; have hcz9_2 : w8.cell? ⟨gb162, 2, none⟩ = some (.int .u64 a0_2) := (blk_cell BK162.out 2).trans rfl; have hcz9_3 : w8.cell? ⟨gb162, 3, none⟩ = some (.int .u64 a0_3) := (blk_cell BK162.out 3).trans rfl; have hcz9_4 : w8.cell? ⟨gb162, 4, none⟩ = some (.string a0_4) := (blk_cell BK162.out 4).trans rfl; have hcz9_5 : w8.cell? ⟨gb162, 5, none⟩ = some (.string a0_5) := (blk_cell BK162.out 5).trans rfl; have hcz9_6 : w8.cell? ⟨gb162, 6, none⟩ = some (.int .u64 a0_6) := (blk_cell BK162.out 6).trans rfl; have hcz9_7 : w8.cell? ⟨gb162, 7, none⟩ = some (.int .u64 a0_7) := (blk_cell BK162.out 7).trans rfl; have hcz9_8 : w8.cell? ⟨gb162, 8, none⟩ = some (.string a0_8) := (blk_cell BK162.out 8).trans rfl; have hcz9_9 : w8.cell? ⟨gb162, 9, none⟩ = some (.int .u64 a0_9) := (blk_cell BK162.out 9).trans rfl; have hcz9_10 : w8.cell? ⟨gb162, 10, none⟩ = some (.int .u64 a0_10) := (blk_cell BK162.out 10).trans rfl; have hcz9_11 : w8.cell? ⟨gb162, 11, none⟩ = some (.string a0_11) := (blk_cell BK162.out 11).trans rfl; have hcz9_12 : w8.cell? ⟨gb162, 12, none⟩ = some (.slice A0_12 l0_12.length c0_12) := (blk_cell BK162.out 12).trans rfl; have hfz9_0 := blk_frozen BK162.out 0; have hfz9_1 := blk_frozen BK162.out 1; have hfz9_2 := blk_frozen BK162.out 2; have hfz9_3 := blk_frozen BK162.out 3; have hfz9_4 := blk_frozen BK162.out 4; have hfz9_5 := blk_frozen BK162.out 5; have hfz9_6 := blk_frozen BK162.out 6; have hfz9_7 := blk_frozen BK162.out 7; have hfz9_8 := blk_frozen BK162.out 8; have hfz9_9 := blk_frozen BK162.out 9; have hfz9_10 := blk_frozen BK162.out 10; have hfz9_11 := blk_frozen BK162.out 11; have hfz9_12 := blk_frozen BK162.out 12) | ((with_reducible refine gate_callee (f := 45) rfl ?_); refine goesL_ (some 22) rfl rfl Try.func45 (by kernel_rfl) rfl #[.int .u64 (IntKind.u64.wrap ((l0_12.length : Int)))] rfl (by (try simp only [List.map_toArray, List.map_cons, List.map_nil]); first | done | rfl | (simp only [List.length_drop, List.length_take]; rfl)) ?_; (with_reducible refine (frame_number.calls (IntKind.u64.wrap ((l0_12.length : Int))) t172 t173 t174 _ A4.out).mono ?_); rintro e w10 ⟨rfl, hb⟩; refine ⟨_, rfl, ?_⟩; have n0_ := Aside0.mk (Kd.R_below (by (with_reducible repeat (first | apply Kd.R_alloc | apply Kd.R_drewN | apply Kd.R_drew)); exact HO165.out) hb); have n1_ := Aside0.mk (blk_below (g := gb162) (o := .cells #[.int .i64 a0_0, .int .u64 a0_1, .int .u64 a0_2, .int .u64 a0_3, .string a0_4, .string a0_5, .int .u64 a0_6, .int .u64 a0_7, .string a0_8, .int .u64 a0_9, .int .u64 a0_10, .string a0_11, .slice A0_12 l0_12.length c0_12] 25 (0, 0)) (by (with_reducible repeat (first | refine blk_drewN ?_ _ | refine blk_drew ?_ | refine blk_alloc ?_ _)); exact BK162.out) hb); have n2_ := Aside0.mk (below_step (by repeat (first | (with_reducible first | exact HB.out | apply below_alloc | apply pw_below_drewN | apply below_drew1 | refine below_set ?_ GE162.out) | exact HB.out)) hb); clear HO165; clear BK162; clear HB; have HO165 := n0_; have BK162 := n1_; have HB := n2_; clear n0_ n1_ n2_; (try clear hb); (try clear hb2); (try clear hk); (try clear hi)) | ((with_reducible refine gate_builtin (b := .append) (xs := #[.tmp 17, .tmp 23]) rfl ?_); at_builtin; refine Kd.R_append k67 (w0 := w) w.heap.size rfl (.tmp 17) (.tmp 23) 48 67 (.agg #[(.bool false), (.int .u64 0), (.string ⟨#[]⟩)]) 32 rfl Try.underlying48 info67 rfl (by decide) (by omega) v164 t163 (⟨t172, t173, t174⟩ : S67) [.bool t172, .int .u64 t173, .string t174] (fun _ => True) (fun _ => False) rfl rfl ?aP (fun _ hk => hk.elim) ?aF ?aO ?aB ?aS ?aL ?_; (case aP => exact k67_mkM _ _ _ (⟨t172, t173, t174⟩ : S67)); (case aB => exact (by repeat (first | (with_reducible first | exact HB.out | apply below_alloc | apply pw_below_drewN | apply below_drew1 | refine below_set ?_ GE162.out) | exact HB.out))); (case aF => exact (fun _ _ => trivial)); (case aO => exact (by (with_reducible repeat (first | apply Kd.R_alloc | apply Kd.R_drewN | apply Kd.R_drew)); exact HO165.out)); (case aS => exact (below_size (by repeat (first | (with_reducible first | exact HB.out | apply below_alloc | apply pw_below_drewN | apply below_drew1 | refine below_set ?_ GE162.out) | exact HB.out)))); (case aL => have := LMc5.out; omega); intro v176 w11 ho hb hg hat; rw [← Ny175.out] at ho; have n0_ := Aside0.mk (blk_grown (g := gb162) (o := .cells #[.int .i64 a0_0, .int .u64 a0_1, .int .u64 a0_2, .int .u64 a0_3, .string a0_4, .string a0_5, .int .u64 a0_6, .int .u64 a0_7, .string a0_8, .int .u64 a0_9, .int .u64 a0_10, .string a0_11, .slice A0_12 l0_12.length c0_12] 25 (0, 0)) (by (with_reducible repeat (first | refine blk_drewN ?_ _ | refine blk_drew ?_ | refine blk_alloc ?_ _)); exact BK162.out) hg (Kd.R_ne HO165.out BK162.out (by decide))); have n1_ := Aside0.mk (hb); have n2_ := Aside0.mk (ho); clear BK162; clear HB; clear HO165; have BK162 := n0_; have HB := n1_; have HO177 := n2_; clear n0_ n1_ n2_; clear ho hb hg hat; have hcz12_0 : w11.cell? ⟨gb162, 0, none⟩ = some (.int .i64 a0_0) := (blk_cell BK162.out 0).trans rfl; have hcz12_1 : w11.cell? ⟨gb162, 1, none⟩ = some (.int .u64 a0_1) := (blk_cell BK162.out 1).trans rfl; have hcz12_2 : w11.cell? ⟨gb162, 2, none⟩ = some (.int .u64 a0_2) := (blk_cell BK162.out 2).trans rfl; have hcz12_3 : w11.cell? ⟨gb162, 3, none⟩ = some (.int .u64 a0_3) := (blk_cell BK162.out 3).trans rfl; have hcz12_4 : w11.cell? ⟨gb162, 4, none⟩ = some (.string a0_4) := (blk_cell BK162.out 4).trans rfl; have hcz12_5 : w11.cell? ⟨gb162, 5, none⟩ = some (.string a0_5) := (blk_cell BK162.out 5).trans rfl; have hcz12_6 : w11.cell? ⟨gb162, 6, none⟩ = some (.int .u64 a0_6) := (blk_cell BK162.out 6).trans rfl; have hcz12_7 : w11.cell? ⟨gb162, 7, none⟩ = some (.int .u64 a0_7) := (blk_cell BK162.out 7).trans rfl; have hcz12_8 : w11.cell? ⟨gb162, 8, none⟩ = some (.string a0_8) := (blk_cell BK162.out 8).trans rfl; have hcz12_9 : w11.cell? ⟨gb162, 9, none⟩ = some (.int .u64 a0_9) := (blk_cell BK162.out 9).trans rfl; have hcz12_10 : w11.cell? ⟨gb162, 10, none⟩ = some (.int .u64 a0_10) := (blk_cell BK162.out 10).trans rfl; have hcz12_11 : w11.cell? ⟨gb162, 11, none⟩ = some (.string a0_11) := (blk_cell BK162.out 11).trans rfl; have hcz12_12 : w11.cell? ⟨gb162, 12, none⟩ = some (.slice A0_12 l0_12.length c0_12) := (blk_cell BK162.out 12).trans rfl; have hfz12_0 := blk_frozen BK162.out 0; have hfz12_1 := blk_frozen BK162.out 1; have hfz12_2 := blk_frozen BK162.out 2; have hfz12_3 := blk_frozen BK162.out 3; have hfz12_4 := blk_frozen BK162.out 4; have hfz12_5 := blk_frozen BK162.out 5; have hfz12_6 := blk_frozen BK162.out 6; have hfz12_7 := blk_frozen BK162.out 7; have hfz12_8 := blk_frozen BK162.out 8; have hfz12_9 := blk_frozen BK162.out 9; have hfz12_10 := blk_frozen BK162.out 10; have hfz12_11 := blk_frozen BK162.out 11; have hfz12_12 := blk_frozen BK162.out 12))
      go_loopg [3, 28] k (fun kq v3 v28 w' => ∃ (x3_1 : List (S67)) (x28_1 : Int), v28 = .int .i64 x28_1 ∧ Aside0 (frame_parts.l0 kq x3_1 l0_12 (l0_12.length : Int) x28_1 = some r) ∧ Aside0 (kq ≤ k) ∧ Aside0 (Kd.R k67 67 w' w.heap.size (fun _ => True) v3 x3_1) ∧ Aside0 (w'.heap[gb162]? = some (.cells #[.int .i64 a0_0, .int .u64 a0_1, .int .u64 a0_2, .int .u64 a0_3, .string a0_4, .string a0_5, .int .u64 a0_6, .int .u64 a0_7, .string a0_8, .int .u64 a0_9, .int .u64 a0_10, .string a0_11, (.slice A0_12 l0_12.length c0_12)] 25 (0, 0))) ∧ Aside0 (Below w.heap.size w w'))
      case atStart => exact ⟨(y175), (0), (by first | rfl | (simp; done) | (simp [*]; done)), H', ⟨Nat.le_refl _⟩, ⟨by (with_reducible repeat (first | apply Kd.R_alloc | apply Kd.R_drewN | apply Kd.R_drew)); exact HO177.out⟩, ⟨by (with_reducible repeat (first | refine blk_drewN ?_ _ | refine blk_drew ?_ | refine blk_alloc ?_ _)); exact BK162.out⟩, ⟨by repeat (first | (with_reducible first | exact HB.out | apply below_alloc | apply pw_below_drewN | apply below_drew1 | refine below_set ?_ GE162.out) | exact HB.out)⟩⟩
      case round =>
        clear H'
        try clear c2
        try clear p2
        try clear c3
        try clear c3b0
        try clear c3b1
        try clear c4
        try clear c5
        try clear hcz12_0
        try clear hcz12_1
        try clear hcz12_10
        try clear hcz12_11
        try clear hcz12_12
        try clear hcz12_2
        try clear hcz12_3
        try clear hcz12_4
        try clear hcz12_5
        try clear hcz12_6
        try clear hcz12_7
        try clear hcz12_8
        try clear hcz12_9
        try clear hcz7_0
        try clear hcz7_1
        try clear hcz7_10
        try clear hcz7_11
        try clear hcz7_12
        try clear hcz7_2
        try clear hcz7_3
        try clear hcz7_4
        try clear hcz7_5
        try clear hcz7_6
        try clear hcz7_7
        try clear hcz7_8
        try clear hcz7_9
        try clear hcz9_0
        try clear hcz9_1
        try clear hcz9_10
        try clear hcz9_11
        try clear hcz9_12
        try clear hcz9_2
        try clear hcz9_3
        try clear hcz9_4
        try clear hcz9_5
        try clear hcz9_6
        try clear hcz9_7
        try clear hcz9_8
        try clear hcz9_9
        try clear hfz12_0
        try clear hfz12_1
        try clear hfz12_10
        try clear hfz12_11
        try clear hfz12_12
        try clear hfz12_2
        try clear hfz12_3
        try clear hfz12_4
        try clear hfz12_5
        try clear hfz12_6
        try clear hfz12_7
        try clear hfz12_8
        try clear hfz12_9
        try clear hfz7_0
        try clear hfz7_1
        try clear hfz7_10
        try clear hfz7_11
        try clear hfz7_12
        try clear hfz7_2
        try clear hfz7_3
        try clear hfz7_4
        try clear hfz7_5
        try clear hfz7_6
        try clear hfz7_7
        try clear hfz7_8
        try clear hfz7_9
        try clear hfz9_0
        try clear hfz9_1
        try clear hfz9_10
        try clear hfz9_11
        try clear hfz9_12
        try clear hfz9_2
        try clear hfz9_3
        try clear hfz9_4
        try clear hfz9_5
        try clear hfz9_6
        try clear hfz9_7
        try clear hfz9_8
        try clear hfz9_9
        obtain ⟨x3_1, x28_1, rfl, HA, HK1, HO_3, BK162, HB⟩ := hrel
        cases gk with
        | zero => exact absurd HA.out (by simp [frame_parts.l0])
        | succ k1 =>
          have H := HA.out
          clear HA
          simp only [frame_parts.l0] at H
          by_cases c13 : x28_1 < (l0_12.length : Int)
          · rw [if_pos c13] at H
            have c13b0 : decide (x28_1 < (l0_12.length : Int)) = true := decide_eq_true c13
            clear c13
            by_cases c14 : 0 ≤ x28_1
            · rw [if_pos c14] at H
              have c14b0 : decide (0 ≤ x28_1) = true := decide_eq_true c14
              clear c14
              by_cases c15 : x28_1 < (l0_12.length : Int)
              · rw [if_pos c15] at H
                have c15b0 : decide (x28_1 < (l0_12.length : Int)) = true := decide_eq_true c15
                clear c15
                replace H := Option.bind_eq_some_iff.mp H
                obtain ⟨⟨t179, t180, t181⟩, A160, H⟩ := H
                replace H : (if x3_1.length < 4398046511104 then (frame_parts.l0 k1 (x3_1 ++ [(⟨t179, t180, t181⟩ : S67)]) l0_12 (l0_12.length : Int) (wrap64 (x28_1 + 1))) else (none)) = some r := H
                have A16 := Aside0.mk A160
                clear A160
                by_cases c17 : x3_1.length < 4398046511104
                · rw [if_pos c17] at H
                  have LMc17 := Aside0.mk c17
                  clear c17
                  obtain ⟨y182, hy182⟩ : ∃ y_ : List (S67), y_ = (x3_1 ++ [(⟨t179, t180, t181⟩ : S67)]) := ⟨_, rfl⟩
                  replace H : (frame_parts.l0 k1 y182 l0_12 (l0_12.length : Int) (wrap64 (x28_1 + 1))) = some r := by first | (rw [hy182]; with_reducible exact H) | (have H2_ := (Option.bind_some _ _).symm.trans H; rw [hy182]; with_reducible exact H2_) | (have H2_ := (Option.bind_some _ _).symm.trans H; with_reducible exact H2_) | with_reducible exact H | (rw [hy182]; exact H) | exact H
                  have Ny182 := Aside0.mk hy182
                  clear hy182
                  have H' := Aside0.mk H
                  clear H
                  have p178 : 0 ≤ (x28_1 : Int) := of_decide_eq_true (by first | (with_reducible assumption) | assumption)
                  have q178 : x28_1 < (l0_12.length : Int) := of_decide_eq_true (by first | (with_reducible assumption) | assumption)
                  obtain ⟨ad178, e178, hx178_0⟩ := Kd.at_string HR0_12.out x28_1 p178 q178
                  cases e178
                  replace hx178_0 := (HB.out.cell (World.block_lt_of_cell? w _ hx178_0)).trans hx178_0
                  replace p178 := eq_true p178
                  replace q178 := eq_true q178
                  go_wp2_with (first | ((with_reducible refine gate_callee (f := 44) rfl ?_); refine goesL_ (some 34) rfl rfl Try.func44 (by kernel_rfl) rfl #[.string (rdOf ByteArray.empty l0_12 x28_1)] rfl (by (try simp only [List.map_toArray, List.map_cons, List.map_nil]); first | done | rfl | (simp only [List.length_drop, List.length_take]; rfl)) ?_; (with_reducible refine (frame_text.calls (rdOf ByteArray.empty l0_12 x28_1) t179 t180 t181 _ A16.out).mono ?_); rintro e w18 ⟨rfl, hb⟩; refine ⟨_, rfl, ?_⟩; have n0_ := Aside0.mk (Kd.R_below (by (with_reducible repeat (first | apply Kd.R_alloc | apply Kd.R_drewN | apply Kd.R_drew)); exact HO_3.out) hb); have n1_ := Aside0.mk (blk_below (g := gb162) (o := .cells #[.int .i64 a0_0, .int .u64 a0_1, .int .u64 a0_2, .int .u64 a0_3, .string a0_4, .string a0_5, .int .u64 a0_6, .int .u64 a0_7, .string a0_8, .int .u64 a0_9, .int .u64 a0_10, .string a0_11, .slice (some ad178) l0_12.length c0_12] 25 (0, 0)) (by (with_reducible repeat (first | refine blk_drewN ?_ _ | refine blk_drew ?_ | refine blk_alloc ?_ _)); exact BK162.out) hb); have n2_ := Aside0.mk (below_step (by repeat (first | (with_reducible first | exact HB.out | apply below_alloc | apply pw_below_drewN | apply below_drew1 | refine below_set ?_ GE162.out) | exact HB.out)) hb); clear HO_3; clear BK162; clear HB; have HO_3 := n0_; have BK162 := n1_; have HB := n2_; clear n0_ n1_ n2_; (try clear hb); (try clear hb2); (try clear hk); (try clear hi)) | ((with_reducible refine gate_builtin (b := .append) (xs := #[.tmp 32, .tmp 35]) rfl ?_); at_builtin; refine Kd.R_append k67 (w0 := w) w.heap.size rfl (.tmp 32) (.tmp 35) 48 67 (.agg #[(.bool false), (.int .u64 0), (.string ⟨#[]⟩)]) 32 rfl Try.underlying48 info67 rfl (by decide) (by omega) u3 x3_1 (⟨t179, t180, t181⟩ : S67) [.bool t179, .int .u64 t180, .string t181] (fun _ => True) (fun _ => False) rfl rfl ?aP (fun _ hk => hk.elim) ?aF ?aO ?aB ?aS ?aL ?_; (case aP => exact k67_mkM _ _ _ (⟨t179, t180, t181⟩ : S67)); (case aB => exact (by repeat (first | (with_reducible first | exact HB.out | apply below_alloc | apply pw_below_drewN | apply below_drew1 | refine below_set ?_ GE162.out) | exact HB.out))); (case aF => exact (fun _ _ => trivial)); (case aO => exact (by (with_reducible repeat (first | apply Kd.R_alloc | apply Kd.R_drewN | apply Kd.R_drew)); exact HO_3.out)); (case aS => exact (below_size (by repeat (first | (with_reducible first | exact HB.out | apply below_alloc | apply pw_below_drewN | apply below_drew1 | refine below_set ?_ GE162.out) | exact HB.out)))); (case aL => have := LMc17.out; omega); intro v183 w19 ho hb hg hat; rw [← Ny182.out] at ho; have n0_ := Aside0.mk (blk_grown (g := gb162) (o := .cells #[.int .i64 a0_0, .int .u64 a0_1, .int .u64 a0_2, .int .u64 a0_3, .string a0_4, .string a0_5, .int .u64 a0_6, .int .u64 a0_7, .string a0_8, .int .u64 a0_9, .int .u64 a0_10, .string a0_11, .slice (some ad178) l0_12.length c0_12] 25 (0, 0)) (by (with_reducible repeat (first | refine blk_drewN ?_ _ | refine blk_drew ?_ | refine blk_alloc ?_ _)); exact BK162.out) hg (Kd.R_ne HO_3.out BK162.out (by decide))); have n1_ := Aside0.mk (hb); have n2_ := Aside0.mk (ho); clear BK162; clear HB; clear HO_3; have BK162 := n0_; have HB := n1_; have HO184 := n2_; clear n0_ n1_ n2_; clear ho hb hg hat))
                  go_roundg k1
                  case measure => have := HK1.out; omega
                  case rel => exact ⟨(y182), (wrap64 (x28_1 + 1)), (by first | rfl | (simp; done) | (simp [*]; done)), H', ⟨by have := HK1.out; omega⟩, ⟨by (with_reducible repeat (first | apply Kd.R_alloc | apply Kd.R_drewN | apply Kd.R_drew)); exact HO184.out⟩, ⟨by (with_reducible repeat (first | refine blk_drewN ?_ _ | refine blk_drew ?_ | refine blk_alloc ?_ _)); exact BK162.out⟩, ⟨by repeat (first | (with_reducible first | exact HB.out | apply below_alloc | apply pw_below_drewN | apply below_drew1 | refine below_set ?_ GE162.out) | exact HB.out)⟩⟩
                · rw [if_neg c17] at H
                  exact absurd H (by simp)
              · rw [if_neg c15] at H
                exact absurd H (by simp)
            · rw [if_neg c14] at H
              exact absurd H (by simp)
          · rw [if_neg c13] at H
            have c13b0 : decide (x28_1 < (l0_12.length : Int)) = false := decide_eq_false c13
            clear c13
            obtain rfl := Option.some.inj H
            go_wp2
            go_ret
            exact ⟨_, by first | rfl | (simp [errW_none, errW_some] <;> rfl) | (simp [*, errW_none, errW_some] <;> rfl), by (with_reducible repeat (first | apply Kd.R_alloc | apply Kd.R_drewN | apply Kd.R_drew)); exact HO_3.out, by repeat (first | (with_reducible first | exact HB.out | apply below_alloc | apply pw_below_drewN | apply below_drew1 | refine below_set ?_ GE162.out) | exact HB.out)⟩
    · rw [if_neg c5] at H
      exact absurd H (by simp)
  · rw [if_neg c3] at H
    have c3b0 : (a0_0 == 2) = false := beq_eq_false_iff_ne.mpr c3
    have c3b1 : (a0_0 != 2) = true := bne_iff_ne.mpr c3
    replace H := Option.bind_eq_some_iff.mp H
    obtain ⟨⟨t166, t167, t168⟩, A200, H⟩ := H
    replace H : (if t163.length < 4398046511104 then (some (t163 ++ [(⟨t166, t167, t168⟩ : S67)])) else (none)) = some r := H
    have A20 := Aside0.mk A200
    clear A200
    by_cases c21 : t163.length < 4398046511104
    · rw [if_pos c21] at H
      have LMc21 := Aside0.mk c21
      clear c21
      obtain ⟨y169, hy169⟩ : ∃ y_ : List (S67), y_ = (t163 ++ [(⟨t166, t167, t168⟩ : S67)]) := ⟨_, rfl⟩
      replace H : (some y169) = some r := by first | (rw [hy169]; with_reducible exact H) | (have H2_ := (Option.bind_some _ _).symm.trans H; rw [hy169]; with_reducible exact H2_) | (have H2_ := (Option.bind_some _ _).symm.trans H; with_reducible exact H2_) | with_reducible exact H | (rw [hy169]; exact H) | exact H
      have Ny169 := Aside0.mk hy169
      clear hy169
      obtain rfl := Option.some.inj H
      go_enter Try.func24, Try.ntmps24
      go_wp2_with (first | ((with_reducible refine gate_dst (N := 1) rfl ?_); refine box_event ?hg (N := 1) ?hd (cs := #[.int .i64 a0_0, .int .u64 a0_1, .int .u64 a0_2, .int .u64 a0_3, .string a0_4, .string a0_5, .int .u64 a0_6, .int .u64 a0_7, .string a0_8, .int .u64 a0_9, .int .u64 a0_10, .string a0_11, .slice A0_12 l0_12.length c0_12]) (t := 25) ?hr ?_; (case hd => rfl); (case hg => rfl); (case hr => first | (go_simp; done) | (go_simp; rfl)); intro gb162 hg w22 hbox hb; have n0_ := Aside0.mk (below_step (by repeat (first | (with_reducible first | exact HB.out | apply below_alloc | apply pw_below_drewN | apply below_drew1) | exact HB.out)) hb); have n1_ := Aside0.mk (hbox); have n2_ := Aside0.mk ((by rw [hg]; exact (below_size (by repeat (first | (with_reducible first | exact HB.out | apply below_alloc | apply pw_below_drewN | apply below_drew1) | exact HB.out))) : w.heap.size ≤ gb162)); have n3_ := Aside0.mk ((by rw [hg]; exact (below_size (by repeat (first | (with_reducible first | exact HB.out | apply below_alloc | apply pw_below_drewN | apply below_drew1) | exact HB.out))) : w.heap.size ≤ gb162)); clear HB; have HB := n0_; have BK162 := n1_; have GW162 := n2_; have GE162 := n3_; clear n0_ n1_ n2_ n3_; clear hb hbox hg; have hcz23_0 : w22.cell? ⟨gb162, 0, none⟩ = some (.int .i64 a0_0) := (blk_cell BK162.out 0).trans rfl; have hcz23_1 : w22.cell? ⟨gb162, 1, none⟩ = some (.int .u64 a0_1) := (blk_cell BK162.out 1).trans rfl; have hcz23_2 : w22.cell? ⟨gb162, 2, none⟩ = some (.int .u64 a0_2) := (blk_cell BK162.out 2).trans rfl; have hcz23_3 : w22.cell? ⟨gb162, 3, none⟩ = some (.int .u64 a0_3) := (blk_cell BK162.out 3).trans rfl; have hcz23_4 : w22.cell? ⟨gb162, 4, none⟩ = some (.string a0_4) := (blk_cell BK162.out 4).trans rfl; have hcz23_5 : w22.cell? ⟨gb162, 5, none⟩ = some (.string a0_5) := (blk_cell BK162.out 5).trans rfl; have hcz23_6 : w22.cell? ⟨gb162, 6, none⟩ = some (.int .u64 a0_6) := (blk_cell BK162.out 6).trans rfl; have hcz23_7 : w22.cell? ⟨gb162, 7, none⟩ = some (.int .u64 a0_7) := (blk_cell BK162.out 7).trans rfl; have hcz23_8 : w22.cell? ⟨gb162, 8, none⟩ = some (.string a0_8) := (blk_cell BK162.out 8).trans rfl; have hcz23_9 : w22.cell? ⟨gb162, 9, none⟩ = some (.int .u64 a0_9) := (blk_cell BK162.out 9).trans rfl; have hcz23_10 : w22.cell? ⟨gb162, 10, none⟩ = some (.int .u64 a0_10) := (blk_cell BK162.out 10).trans rfl; have hcz23_11 : w22.cell? ⟨gb162, 11, none⟩ = some (.string a0_11) := (blk_cell BK162.out 11).trans rfl; have hcz23_12 : w22.cell? ⟨gb162, 12, none⟩ = some (.slice A0_12 l0_12.length c0_12) := (blk_cell BK162.out 12).trans rfl; have hfz23_0 := blk_frozen BK162.out 0; have hfz23_1 := blk_frozen BK162.out 1; have hfz23_2 := blk_frozen BK162.out 2; have hfz23_3 := blk_frozen BK162.out 3; have hfz23_4 := blk_frozen BK162.out 4; have hfz23_5 := blk_frozen BK162.out 5; have hfz23_6 := blk_frozen BK162.out 6; have hfz23_7 := blk_frozen BK162.out 7; have hfz23_8 := blk_frozen BK162.out 8; have hfz23_9 := blk_frozen BK162.out 9; have hfz23_10 := blk_frozen BK162.out 10; have hfz23_11 := blk_frozen BK162.out 11; have hfz23_12 := blk_frozen BK162.out 12) | ((with_reducible refine gate_callee (f := 25) rfl ?_); refine goesL_ (some 7) rfl rfl Try.func25 (by kernel_rfl) rfl #[.agg #[.int .i64 a0_0, .int .u64 a0_1, .int .u64 a0_2, .int .u64 a0_3, .string a0_4, .string a0_5, .int .u64 a0_6, .int .u64 a0_7, .string a0_8, .int .u64 a0_9, .int .u64 a0_10, .string a0_11, .slice A0_12 l0_12.length c0_12]] rfl (by (try simp only [List.map_toArray, List.map_cons, List.map_nil]); first | done | rfl | (simp only [List.length_drop, List.length_take]; rfl)) ?_; (with_reducible refine (frame_head.calls k a0_0 a0_1 a0_2 a0_3 a0_4 a0_5 a0_6 a0_7 a0_8 a0_9 a0_10 a0_11 _ _ l0_12 t163 _ ?side1 ?side2 A2.out).mono ?_); (case side1 => repeat (first | exact (Kd.C_below HR0_12.out HB.out) | (with_reducible refine Kd.C_alloc ?_ _) | (with_reducible refine Kd.C_drewN ?_ _) | (with_reducible refine Kd.C_drew ?_))); (case side2 => exact HC0_12.out); rintro e w24 ⟨v164, rfl, ho0, hb⟩; refine ⟨_, rfl, ?_⟩; have n0_ := Aside0.mk (Kd.R_lower ho0 (below_size (by repeat (first | (with_reducible first | exact HB.out | apply below_alloc | apply pw_below_drewN | apply below_drew1 | refine below_set ?_ GE162.out) | exact HB.out)))); have n1_ := Aside0.mk (blk_below (g := gb162) (o := .cells #[.int .i64 a0_0, .int .u64 a0_1, .int .u64 a0_2, .int .u64 a0_3, .string a0_4, .string a0_5, .int .u64 a0_6, .int .u64 a0_7, .string a0_8, .int .u64 a0_9, .int .u64 a0_10, .string a0_11, .slice A0_12 l0_12.length c0_12] 25 (0, 0)) (by (with_reducible repeat (first | refine blk_drewN ?_ _ | refine blk_drew ?_ | refine blk_alloc ?_ _)); exact BK162.out) hb); have n2_ := Aside0.mk (below_step (by repeat (first | (with_reducible first | exact HB.out | apply below_alloc | apply pw_below_drewN | apply below_drew1 | refine below_set ?_ GE162.out) | exact HB.out)) hb); clear BK162; clear HB; have HO165 := n0_; have BK162 := n1_; have HB := n2_; clear n0_ n1_ n2_; (try clear hb); (try clear hb2); (try clear hk); (try clear hi); (try clear ho0); have hcz25_0 : w24.cell? ⟨gb162, 0, none⟩ = some (.int .i64 a0_0) := (blk_cell BK162.out 0).trans rfl; have hcz25_1 : w24.cell? ⟨gb162, 1, none⟩ = some (.int .u64 a0_1) := (blk_cell BK162.out 1).trans rfl; have hcz25_2 : w24.cell? ⟨gb162, 2, none⟩ = some (.int .u64 a0_2) := (blk_cell BK162.out 2).trans rfl; have hcz25_3 : w24.cell? ⟨gb162, 3, none⟩ = some (.int .u64 a0_3) := (blk_cell BK162.out 3).trans rfl; have hcz25_4 : w24.cell? ⟨gb162, 4, none⟩ = some (.string a0_4) := (blk_cell BK162.out 4).trans rfl; have hcz25_5 : w24.cell? ⟨gb162, 5, none⟩ = some (.string a0_5) := (blk_cell BK162.out 5).trans rfl; have hcz25_6 : w24.cell? ⟨gb162, 6, none⟩ = some (.int .u64 a0_6) := (blk_cell BK162.out 6).trans rfl; have hcz25_7 : w24.cell? ⟨gb162, 7, none⟩ = some (.int .u64 a0_7) := (blk_cell BK162.out 7).trans rfl; have hcz25_8 : w24.cell? ⟨gb162, 8, none⟩ = some (.string a0_8) := (blk_cell BK162.out 8).trans rfl; have hcz25_9 : w24.cell? ⟨gb162, 9, none⟩ = some (.int .u64 a0_9) := (blk_cell BK162.out 9).trans rfl; have hcz25_10 : w24.cell? ⟨gb162, 10, none⟩ = some (.int .u64 a0_10) := (blk_cell BK162.out 10).trans rfl; have hcz25_11 : w24.cell? ⟨gb162, 11, none⟩ = some (.string a0_11) := (blk_cell BK162.out 11).trans rfl; have hcz25_12 : w24.cell? ⟨gb162, 12, none⟩ = some (.slice A0_12 l0_12.length c0_12) := (blk_cell BK162.out 12).trans rfl; have hfz25_0 := blk_frozen BK162.out 0; have hfz25_1 := blk_frozen BK162.out 1; have hfz25_2 := blk_frozen BK162.out 2; have hfz25_3 := blk_frozen BK162.out 3; have hfz25_4 := blk_frozen BK162.out 4; have hfz25_5 := blk_frozen BK162.out 5; have hfz25_6 := blk_frozen BK162.out 6; have hfz25_7 := blk_frozen BK162.out 7; have hfz25_8 := blk_frozen BK162.out 8; have hfz25_9 := blk_frozen BK162.out 9; have hfz25_10 := blk_frozen BK162.out 10; have hfz25_11 := blk_frozen BK162.out 11; have hfz25_12 := blk_frozen BK162.out 12) | ((with_reducible refine gate_callee (f := 44) rfl ?_); refine goesL_ (some 14) rfl rfl Try.func44 (by kernel_rfl) rfl #[.string a0_11] rfl (by (try simp only [List.map_toArray, List.map_cons, List.map_nil]); first | done | rfl | (simp only [List.length_drop, List.length_take]; rfl)) ?_; (with_reducible refine (frame_text.calls a0_11 t166 t167 t168 _ A20.out).mono ?_); rintro e w26 ⟨rfl, hb⟩; refine ⟨_, rfl, ?_⟩; have n0_ := Aside0.mk (Kd.R_below (by (with_reducible repeat (first | apply Kd.R_alloc | apply Kd.R_drewN | apply Kd.R_drew)); exact HO165.out) hb); have n1_ := Aside0.mk (blk_below (g := gb162) (o := .cells #[.int .i64 a0_0, .int .u64 a0_1, .int .u64 a0_2, .int .u64 a0_3, .string a0_4, .string a0_5, .int .u64 a0_6, .int .u64 a0_7, .string a0_8, .int .u64 a0_9, .int .u64 a0_10, .string a0_11, .slice A0_12 l0_12.length c0_12] 25 (0, 0)) (by (with_reducible repeat (first | refine blk_drewN ?_ _ | refine blk_drew ?_ | refine blk_alloc ?_ _)); exact BK162.out) hb); have n2_ := Aside0.mk (below_step (by repeat (first | (with_reducible first | exact HB.out | apply below_alloc | apply pw_below_drewN | apply below_drew1 | refine below_set ?_ GE162.out) | exact HB.out)) hb); clear HO165; clear BK162; clear HB; have HO165 := n0_; have BK162 := n1_; have HB := n2_; clear n0_ n1_ n2_; (try clear hb); (try clear hb2); (try clear hk); (try clear hi)) | ((with_reducible refine gate_builtin (b := .append) (xs := #[.tmp 11, .tmp 15]) rfl ?_); at_builtin; refine Kd.R_append k67 (w0 := w) w.heap.size rfl (.tmp 11) (.tmp 15) 48 67 (.agg #[(.bool false), (.int .u64 0), (.string ⟨#[]⟩)]) 32 rfl Try.underlying48 info67 rfl (by decide) (by omega) v164 t163 (⟨t166, t167, t168⟩ : S67) [.bool t166, .int .u64 t167, .string t168] (fun _ => True) (fun _ => False) rfl rfl ?aP (fun _ hk => hk.elim) ?aF ?aO ?aB ?aS ?aL ?_; (case aP => exact k67_mkM _ _ _ (⟨t166, t167, t168⟩ : S67)); (case aB => exact (by repeat (first | (with_reducible first | exact HB.out | apply below_alloc | apply pw_below_drewN | apply below_drew1 | refine below_set ?_ GE162.out) | exact HB.out))); (case aF => exact (fun _ _ => trivial)); (case aO => exact (by (with_reducible repeat (first | apply Kd.R_alloc | apply Kd.R_drewN | apply Kd.R_drew)); exact HO165.out)); (case aS => exact (below_size (by repeat (first | (with_reducible first | exact HB.out | apply below_alloc | apply pw_below_drewN | apply below_drew1 | refine below_set ?_ GE162.out) | exact HB.out)))); (case aL => have := LMc21.out; omega); intro v170 w27 ho hb hg hat; rw [← Ny169.out] at ho; have n0_ := Aside0.mk (blk_grown (g := gb162) (o := .cells #[.int .i64 a0_0, .int .u64 a0_1, .int .u64 a0_2, .int .u64 a0_3, .string a0_4, .string a0_5, .int .u64 a0_6, .int .u64 a0_7, .string a0_8, .int .u64 a0_9, .int .u64 a0_10, .string a0_11, .slice A0_12 l0_12.length c0_12] 25 (0, 0)) (by (with_reducible repeat (first | refine blk_drewN ?_ _ | refine blk_drew ?_ | refine blk_alloc ?_ _)); exact BK162.out) hg (Kd.R_ne HO165.out BK162.out (by decide))); have n1_ := Aside0.mk (hb); have n2_ := Aside0.mk (ho); clear BK162; clear HB; clear HO165; have BK162 := n0_; have HB := n1_; have HO171 := n2_; clear n0_ n1_ n2_; clear ho hb hg hat))
      go_ret
      exact ⟨_, by first | rfl | (simp [errW_none, errW_some] <;> rfl) | (simp [*, errW_none, errW_some] <;> rfl), by (with_reducible repeat (first | apply Kd.R_alloc | apply Kd.R_drewN | apply Kd.R_drew)); exact HO171.out, by repeat (first | (with_reducible first | exact HB.out | apply below_alloc | apply pw_below_drewN | apply below_drew1 | refine below_set ?_ GE162.out) | exact HB.out)⟩
    · rw [if_neg c21] at H
      exact absurd H (by simp)

end Go.Proofs.Ytfghjahmnjghgaa.PFr

import Derived.Test.YtpbaolijacimjaaDoorProg
import Derived.Below
import Derived.Deep.Draws
import Derived.Deep.AppendLies
import Derived.Maps.AppendAt
import Derived.OwnWalk
import Derived.Laws.BytesArg
import Derived.Laws.MakeOwn
import Derived.Laws.OwnMore
import Derived.Deep.OwnRows
import Derived.Tactics
import Derived.Lib.ConvBytes
import Derived.Laws.Slices
import Derived.WalkKit
import Derived.KernelRfl
import Derived.RowKit3
import Derived.Deep.LoopGhost
import Derived.Deep.QuietTactic
import Derived.BigQuiet
import Derived.WideLaws
import Derived.Deep.DeepCutAuto
import Derived.Deep.CutBlock
import Derived.Deep.RegionHeld3
import Derived.Laws.Rows
import Derived.Lib.AppendStr
import Derived.ArgAppend
import Derived.Laws.IdiomCopy
import Derived.OrdersHeld
import Derived.Laws.BitsLemmas
import Derived.RowKit
import Derived.Test.YtpbaolijacimjaaDoorVa
import Derived.Test.YtpbaolijacimjaaDoorDa
import Derived.Lib.Hide
-- PRINTED BY print.sh 35421559b90ae4d0a3588c463048766b98c2df88dd9212a6774a882060cdf62d: not written by this session
namespace Go.Proofs.YtpbaolijacimjaaDoor.PLockTells
open Go.RowKit Go.Proofs.YtpbaolijacimjaaDoorW.PrintWords Go.Proofs.YtpbaolijacimjaaDoorW.PrintLast Go.Proofs.YtpbaolijacimjaaDoorW.PrintMore
attribute [local go_sem] max2_int min2_int max_two min_two max_three min_three max_four min_four   -- for this text's walks alone
set_option linter.unusedVariables false
set_option linter.unusedSimpArgs false

def errW : Option Int → Value
  | none => .nilIface
  | some c => .iface 0 (.int .i64 c)
theorem errW_none : errW none = .nilIface := rfl
theorem errW_some (c : Int) : errW (some c) = .iface 0 (.int .i64 c) := rfl

theorem info3 : (Tryd.prog.info? 3).map (fun i => (i.zero, i.size, i.bytes)) = some (some (.int .i64 0), 1, 8) := by kernel_rfl
theorem info5 : (Tryd.prog.info? 5).map (fun i => (i.zero, i.size, i.bytes)) = some (some (.int .u8 0), 1, 1) := by kernel_rfl
theorem info83 : (Tryd.prog.info? 83).map (fun i => (i.zero, i.size, i.bytes)) = some (some (.int .u32 0), 1, 4) := by kernel_rfl
-- the values' own types

end Go.Proofs.YtpbaolijacimjaaDoor.PLockTells

namespace Go.Proofs.YtpbaolijacimjaaDoor.PLockTells
open Go.RowKit Go.Proofs.YtpbaolijacimjaaDoorW.PrintWords Go.Proofs.YtpbaolijacimjaaDoorW.PrintLast Go.Proofs.YtpbaolijacimjaaDoorW.PrintMore
attribute [local go_sem] max2_int min2_int max_two min_two max_three min_three max_four min_four   -- for this text's walks alone
set_option linter.unusedVariables false
set_option linter.unusedSimpArgs false

/-! ### demurralref05_rol: function 115 -/
def demurralref05_rol.f (a0 : Int) (a1 : Int) : Option (Int) := if 0 ≤ a1 then (some (Go.bits .or .u32 (shl .u32 a0 a1) (shr .u32 a0 ((32 - a1) % 4294967296)))) else (none)
set_option maxHeartbeats 8000000 in
set_option maxRecDepth 100000 in
theorem demurralref05_rol.calls (a0 : Int) (a1 : Int) (r : Int) (w : World) (h : demurralref05_rol.f a0 a1 = some r) :
    Calls Tryd.prog 115 #[.int .u32 a0, .int .u32 a1] w fun e w' => e = .returned (.int .u32 r) ∧ Drawn0 w w' := by
  have H : (if 0 ≤ a1 then (some (Go.bits .or .u32 (shl .u32 a0 a1) (shr .u32 a0 ((32 - a1) % 4294967296)))) else (none)) = some r := h
  clear h
  by_cases c3 : 0 ≤ a1
  · rw [if_pos c3] at H
    have c3b0 := eq_true c3
    have c3b1 : decide (0 ≤ a1) = true := decide_eq_true c3
    clear c3
    obtain ⟨ji4, hji4⟩ : ∃ j_ : Int, (shl .u32 a0 a1) = j_ := ⟨_, rfl⟩
    replace H : (some (Go.bits .or .u32 (ji4) (shr .u32 a0 ((32 - a1) % 4294967296)))) = some r := by first | (rw [hji4] at H; exact H) | (simp only [hji4] at H ⊢; exact H)
    have hji4_ : (IntKind.u32.wrap (a0 * 2 ^ min a1.toNat 32)) = ji4 := hji4
    have hji4z : a1 ≤ 32 → (IntKind.u32.wrap (a0 * 2 ^ a1.toNat)) = ji4 := shl_small hji4
    obtain ⟨ji5, hji5⟩ : ∃ j_ : Int, (shr .u32 a0 ((32 - a1) % 4294967296)) = j_ := ⟨_, rfl⟩
    replace H : (some (Go.bits .or .u32 (ji4) (ji5))) = some r := by first | (rw [hji5] at H; exact H) | (simp only [hji5] at H ⊢; exact H)
    have hji5_ : (a0 / 2 ^ min ((32 - a1) % 4294967296).toNat 32) = ji5 := hji5
    have hji5z : ((32 - a1) % 4294967296) ≤ 32 → (a0 / 2 ^ ((32 - a1) % 4294967296).toNat) = ji5 := shr_small hji5
    obtain rfl := Option.some.inj H
    have hq0 : ¬ ((32 - a1) % 4294967296 < 0) := by omega
    have hq1 : ¬ (a1 < 0) := by have := of_decide_eq_true c3b1; omega
    go_enter Tryd.func115, Tryd.ntmps115
    go_wp2
    go_ret
    exact ⟨by first | rfl | (simp; done) | (simp only [← hji4, ← hji5] <;> (first | rfl | simp)) | (simp [*]; done), by repeat (first | exact Drawn0.refl _ | apply Drawn0.step)⟩
  · rw [if_neg c3] at H
    exact absurd H (by simp)

/-! ### demurralref05_Quarter: function 104 -/
def demurralref05_Quarter.f (a0_0 : Int) (a0_1 : Int) (a0_2 : Int) (a0_3 : Int) : Option (Int × Int × Int × Int) := (demurralref05_rol.f (Go.bits .xor .u32 a0_3 ((a0_0 + a0_1) % 4294967296)) 16).bind fun t302 => ((demurralref05_rol.f (Go.bits .xor .u32 a0_1 ((a0_2 + t302) % 4294967296)) 12).bind fun t303 => ((demurralref05_rol.f (Go.bits .xor .u32 t302 ((((a0_0 + a0_1) % 4294967296) + t303) % 4294967296)) 8).bind fun t304 => ((demurralref05_rol.f (Go.bits .xor .u32 t303 ((((a0_2 + t302) % 4294967296) + t304) % 4294967296)) 7).bind fun t305 => (some ((((a0_0 + a0_1) % 4294967296) + t303) % 4294967296, t305, (((a0_2 + t302) % 4294967296) + t304) % 4294967296, t304)))))
set_option maxHeartbeats 8000000 in
set_option maxRecDepth 100000 in
theorem demurralref05_Quarter.calls (a0_0 : Int) (a0_1 : Int) (a0_2 : Int) (a0_3 : Int) (r1 : Int) (r2 : Int) (r3 : Int) (r4 : Int) (w : World) (h : demurralref05_Quarter.f a0_0 a0_1 a0_2 a0_3 = some (r1, r2, r3, r4)) :
    Calls Tryd.prog 104 #[.agg #[.int .u32 a0_0, .int .u32 a0_1, .int .u32 a0_2, .int .u32 a0_3]] w fun e w' => e = .returned (.agg #[.int .u32 r1, .int .u32 r2, .int .u32 r3, .int .u32 r4]) ∧ Below w.heap.size w w' := by
  have hu147 := Tryd.underlying147
  have HB := Aside0.mk (Below.refl w.heap.size w)
  have H : ((demurralref05_rol.f (Go.bits .xor .u32 a0_3 ((a0_0 + a0_1) % 4294967296)) 16).bind fun t302 => ((demurralref05_rol.f (Go.bits .xor .u32 a0_1 ((a0_2 + t302) % 4294967296)) 12).bind fun t303 => ((demurralref05_rol.f (Go.bits .xor .u32 t302 ((((a0_0 + a0_1) % 4294967296) + t303) % 4294967296)) 8).bind fun t304 => ((demurralref05_rol.f (Go.bits .xor .u32 t303 ((((a0_2 + t302) % 4294967296) + t304) % 4294967296)) 7).bind fun t305 => (some ((((a0_0 + a0_1) % 4294967296) + t303) % 4294967296, t305, (((a0_2 + t302) % 4294967296) + t304) % 4294967296, t304)))))) = some (r1, r2, r3, r4) := h
  clear h
  replace H := Option.bind_eq_some_iff.mp H
  obtain ⟨t302, A20, H⟩ := H
  replace H : ((demurralref05_rol.f (Go.bits .xor .u32 a0_1 ((a0_2 + t302) % 4294967296)) 12).bind fun t303 => ((demurralref05_rol.f (Go.bits .xor .u32 t302 ((((a0_0 + a0_1) % 4294967296) + t303) % 4294967296)) 8).bind fun t304 => ((demurralref05_rol.f (Go.bits .xor .u32 t303 ((((a0_2 + t302) % 4294967296) + t304) % 4294967296)) 7).bind fun t305 => (some ((((a0_0 + a0_1) % 4294967296) + t303) % 4294967296, t305, (((a0_2 + t302) % 4294967296) + t304) % 4294967296, t304))))) = some (r1, r2, r3, r4) := H
  have A2 := Aside0.mk A20
  clear A20
  replace H := Option.bind_eq_some_iff.mp H
  obtain ⟨t303, A30, H⟩ := H
  replace H : ((demurralref05_rol.f (Go.bits .xor .u32 t302 ((((a0_0 + a0_1) % 4294967296) + t303) % 4294967296)) 8).bind fun t304 => ((demurralref05_rol.f (Go.bits .xor .u32 t303 ((((a0_2 + t302) % 4294967296) + t304) % 4294967296)) 7).bind fun t305 => (some ((((a0_0 + a0_1) % 4294967296) + t303) % 4294967296, t305, (((a0_2 + t302) % 4294967296) + t304) % 4294967296, t304)))) = some (r1, r2, r3, r4) := H
  have A3 := Aside0.mk A30
  clear A30
  replace H := Option.bind_eq_some_iff.mp H
  obtain ⟨t304, A40, H⟩ := H
  replace H : ((demurralref05_rol.f (Go.bits .xor .u32 t303 ((((a0_2 + t302) % 4294967296) + t304) % 4294967296)) 7).bind fun t305 => (some ((((a0_0 + a0_1) % 4294967296) + t303) % 4294967296, t305, (((a0_2 + t302) % 4294967296) + t304) % 4294967296, t304))) = some (r1, r2, r3, r4) := H
  have A4 := Aside0.mk A40
  clear A40
  replace H := Option.bind_eq_some_iff.mp H
  obtain ⟨t305, A50, H⟩ := H
  replace H : (some ((((a0_0 + a0_1) % 4294967296) + t303) % 4294967296, t305, (((a0_2 + t302) % 4294967296) + t304) % 4294967296, t304)) = some (r1, r2, r3, r4) := H
  have A5 := Aside0.mk A50
  clear A50
  simp only [Option.some.injEq, Prod.mk.injEq] at H
  obtain ⟨rfl, rfl, rfl, rfl⟩ := H
  have HO := ((Own.start w).alloc' (.cells #[.int .u32 ((a0_0 + a0_1) % 4294967296), .int .u32 a0_1, .int .u32 a0_2, .int .u32 a0_3] 147) rfl).alloc' (.cells #[.int .u32 0, .int .u32 0, .int .u32 0, .int .u32 0] 147) (by simp : _ = w.heap.size + 1)
  have c1 := ((Own.start w).alloc' (.cells #[.int .u32 a0_0, .int .u32 a0_1, .int .u32 a0_2, .int .u32 a0_3] 147) rfl).alloc' (.cells #[.int .u32 0, .int .u32 0, .int .u32 0, .int .u32 0] 147) (by simp : _ = w.heap.size + 1) |>.cell 1 rfl
  have f1 := ((Own.start w).alloc' (.cells #[.int .u32 a0_0, .int .u32 a0_1, .int .u32 a0_2, .int .u32 a0_3] 147) rfl).alloc' (.cells #[.int .u32 0, .int .u32 0, .int .u32 0, .int .u32 0] 147) (by simp : _ = w.heap.size + 1) |>.frozen 1 rfl
  have HO0 := Lib.hid HO
  clear HB HO
  go_enter Tryd.func104, Tryd.ntmps104
  go_wp2_with fail
  generalize hvA : (a0_0 + a0_1) % 4294967296 = vA at *
  have HvA := Lib.hid hvA
  clear hvA
  refine (demurralref05_rol.calls _ _ _ _ A2.out).mono ?_
  rintro e w1 ⟨rfl, hd⟩
  clear c1 f1
  have HO := HO0.out.up hd.below
  clear hd HO0
  have c1 := HO.cell 1 rfl
  have f1 := HO.frozen 1 rfl
  go_wp2_with fail
  generalize hvC : (a0_2 + t302) % 4294967296 = vC at *
  have HvC := Lib.hid hvC
  clear hvC
  replace HO := HO.set' 1 rfl 3 (.int .u32 t302) (L' := [(w.heap.size + 1, .cells #[.int .u32 0, .int .u32 0, .int .u32 0, .int .u32 0] 147 (0, 0)), (w.heap.size, .cells #[.int .u32 vA, .int .u32 a0_1, .int .u32 a0_2, .int .u32 t302] 147 (0, 0))]) rfl
  replace HO := HO.set' 1 rfl 2 (.int .u32 vC) (L' := [(w.heap.size + 1, .cells #[.int .u32 0, .int .u32 0, .int .u32 0, .int .u32 0] 147 (0, 0)), (w.heap.size, .cells #[.int .u32 vA, .int .u32 a0_1, .int .u32 vC, .int .u32 t302] 147 (0, 0))]) rfl
  refine (demurralref05_rol.calls _ _ _ _ A3.out).mono ?_
  rintro e w1 ⟨rfl, hd⟩
  replace HO := HO.up hd.below
  clear c1 f1 hd
  have c1 := HO.cell 1 rfl
  have f1 := HO.frozen 1 rfl
  go_wp2_with fail
  generalize hvA2 : (vA + t303) % 4294967296 = vA2 at *
  have HvA2 := Lib.hid hvA2
  clear hvA2
  replace HO := HO.set' 1 rfl 1 (.int .u32 t303) (L' := [(w.heap.size + 1, .cells #[.int .u32 0, .int .u32 0, .int .u32 0, .int .u32 0] 147 (0, 0)), (w.heap.size, .cells #[.int .u32 vA, .int .u32 t303, .int .u32 vC, .int .u32 t302] 147 (0, 0))]) rfl
  replace HO := HO.set' 1 rfl 0 (.int .u32 vA2) (L' := [(w.heap.size + 1, .cells #[.int .u32 0, .int .u32 0, .int .u32 0, .int .u32 0] 147 (0, 0)), (w.heap.size, .cells #[.int .u32 vA2, .int .u32 t303, .int .u32 vC, .int .u32 t302] 147 (0, 0))]) rfl
  refine (demurralref05_rol.calls _ _ _ _ A4.out).mono ?_
  rintro e w1 ⟨rfl, hd⟩
  replace HO := HO.up hd.below
  clear c1 f1 hd
  have c1 := HO.cell 1 rfl
  have f1 := HO.frozen 1 rfl
  go_wp2_with fail
  generalize hvC2 : (vC + t304) % 4294967296 = vC2 at *
  have HvC2 := Lib.hid hvC2
  clear hvC2
  replace HO := HO.set' 1 rfl 3 (.int .u32 t304) (L' := [(w.heap.size + 1, .cells #[.int .u32 0, .int .u32 0, .int .u32 0, .int .u32 0] 147 (0, 0)), (w.heap.size, .cells #[.int .u32 vA2, .int .u32 t303, .int .u32 vC, .int .u32 t304] 147 (0, 0))]) rfl
  replace HO := HO.set' 1 rfl 2 (.int .u32 vC2) (L' := [(w.heap.size + 1, .cells #[.int .u32 0, .int .u32 0, .int .u32 0, .int .u32 0] 147 (0, 0)), (w.heap.size, .cells #[.int .u32 vA2, .int .u32 t303, .int .u32 vC2, .int .u32 t304] 147 (0, 0))]) rfl
  refine (demurralref05_rol.calls _ _ _ _ A5.out).mono ?_
  rintro e w1 ⟨rfl, hd⟩
  replace HO := HO.up hd.below
  clear c1 f1 hd
  have c1 := HO.cell 1 rfl
  have f1 := HO.frozen 1 rfl
  have f0 := HO.frozen 0 rfl
  have c0 := HO.cell 0 rfl
  have HO1 := Lib.hid (HO.set' 1 rfl 1 (.int .u32 t305) (L' := [(w.heap.size + 1, .cells #[.int .u32 0, .int .u32 0, .int .u32 0, .int .u32 0] 147 (0, 0)), (w.heap.size, .cells #[.int .u32 vA2, .int .u32 t305, .int .u32 vC2, .int .u32 t304] 147 (0, 0))]) rfl)
  go_wp2_with fail
  have HO2 := ((((HO1.out.set' 0 rfl 0 (.int .u32 vA2) (L' := [(w.heap.size + 1, .cells #[.int .u32 vA2, .int .u32 0, .int .u32 0, .int .u32 0] 147 (0, 0)), (w.heap.size, .cells #[.int .u32 vA2, .int .u32 t305, .int .u32 vC2, .int .u32 t304] 147 (0, 0))]) rfl).set' 0 rfl 1 (.int .u32 t305) (L' := [(w.heap.size + 1, .cells #[.int .u32 vA2, .int .u32 t305, .int .u32 0, .int .u32 0] 147 (0, 0)), (w.heap.size, .cells #[.int .u32 vA2, .int .u32 t305, .int .u32 vC2, .int .u32 t304] 147 (0, 0))]) rfl).set' 0 rfl 2 (.int .u32 vC2) (L' := [(w.heap.size + 1, .cells #[.int .u32 vA2, .int .u32 t305, .int .u32 vC2, .int .u32 0] 147 (0, 0)), (w.heap.size, .cells #[.int .u32 vA2, .int .u32 t305, .int .u32 vC2, .int .u32 t304] 147 (0, 0))]) rfl).set' 0 rfl 3 (.int .u32 t304) (L' := [(w.heap.size + 1, .cells #[.int .u32 vA2, .int .u32 t305, .int .u32 vC2, .int .u32 t304] 147 (0, 0)), (w.heap.size, .cells #[.int .u32 vA2, .int .u32 t305, .int .u32 vC2, .int .u32 t304] 147 (0, 0))]) rfl)
  exact bodyPost_ret (v := .agg #[.int .u32 vA2, .int .u32 t305, .int .u32 vC2, .int .u32 t304]) (results_cell_row Tryd.results104 _ _ (w.heap.size + 1) 147 _ (0, 0) _ (by rfl) (HO2.blk 0 rfl) Tryd.underlying147 rfl (by kernel_rfl)) rfl ⟨by rw [← HvA2.out, ← HvC2.out, ← HvA.out, ← HvC.out], HO2.below⟩

/-! ### demurralref05_mix: function 85 -/
def demurralref05_mix.f (l0 : List Int) (a1 : Int) (a2 : Int) (a3 : Int) (a4 : Int) : Option (List Int) := if 0 ≤ a1 then (if a1 < (l0.length : Int) then (if 0 ≤ a2 then (if a2 < (l0.length : Int) then (if 0 ≤ a3 then (if a3 < (l0.length : Int) then (if 0 ≤ a4 then (if a4 < (l0.length : Int) then ((demurralref05_Quarter.f (rd l0 a1) (rd l0 a2) (rd l0 a3) (rd l0 a4)).bind fun bt310 => ((some (([] : List Int) : List Int)).bind fun y315 => (if y315.length + l0.length < 35184372088832 then ((some (y315 ++ l0 : List Int)).bind fun y318 => (if a1 < (y318.length : Int) then (if a2 < (y318.length : Int) then (if a3 < (y318.length : Int) then (if a4 < (y318.length : Int) then (some ((((y318.set (a1 : Int).toNat bt310.1).set (a2 : Int).toNat bt310.2.1).set (a3 : Int).toNat bt310.2.2.1).set (a4 : Int).toNat bt310.2.2.2)) else (none)) else (none)) else (none)) else (none))) else (none)))) else (none)) else (none)) else (none)) else (none)) else (none)) else (none)) else (none)) else (none)
def demurralref05_mix.T1 : Bool × List (List Nat × List Nat) := (true, [([], []), ([], []), ([0, 1], [0, 1]), ([2], [2]), ([], []), ([], []), ([4, 5], [4, 5]), ([6], [6]), ([], []), ([], []), ([8, 9], [8, 9]), ([10], [10]), ([], []), ([], []), ([12, 13], [12, 13]), ([14], [14]), ([3, 7, 11, 15], [3, 7, 11, 15]), ([16], [16]), ([], []), ([18, 17, 17, 0, 1, 2, 3, 4, 5, 6, 7, 8, 9, 10, 11, 12, 13, 14, 15, 16, 17, 18], [17, 18])])
def demurralref05_mix.B1 : List Nat := [0, 0, 3, 7, 0, 0, 48, 112, 0, 0, 768, 1792, 0, 0, 12288, 28672, 65535, 131071, 0, 524287]
theorem demurralref05_mix.tab1 : rtab .any (opsOf Tryd.f85 1) = demurralref05_mix.T1 := by kernel_rfl
theorem demurralref05_mix.bits1 : waitsOk demurralref05_mix.T1.2 demurralref05_mix.B1 = true := by kernel_rfl
set_option maxHeartbeats 8000000 in
set_option maxRecDepth 100000 in
theorem demurralref05_mix.calls (A0 : Option Addr) (c0 : Nat) (l0 : List Int) (a1 : Int) (a2 : Int) (a3 : Int) (a4 : Int) (r : List Int) (w : World) (hr0 : Kd.C (Kd.int .u32) w A0 l0.length l0) (hc0 : l0.length ≤ c0) (h : demurralref05_mix.f l0 a1 a2 a3 a4 = some r) :
    Calls Tryd.prog 85 #[.slice A0 l0.length c0, .int .i64 a1, .int .i64 a2, .int .i64 a3, .int .i64 a4] w fun e w' => ∃ v0_ : Value, e = .returned (v0_) ∧ Kd.R (Kd.int .u32) 83 w' w.heap.size (fun _ => True) v0_ r ∧ Below w.heap.size w w' := by
  have hu147 := Tryd.underlying147
  have HR0 := Aside0.mk hr0
  have HC0 := Aside0.mk hc0
  clear hr0 hc0
  have HB := Aside0.mk (Below.refl w.heap.size w)
  have H : (if 0 ≤ a1 then (if a1 < (l0.length : Int) then (if 0 ≤ a2 then (if a2 < (l0.length : Int) then (if 0 ≤ a3 then (if a3 < (l0.length : Int) then (if 0 ≤ a4 then (if a4 < (l0.length : Int) then ((demurralref05_Quarter.f (rd l0 a1) (rd l0 a2) (rd l0 a3) (rd l0 a4)).bind fun bt310 => ((some (([] : List Int) : List Int)).bind fun y315 => (if y315.length + l0.length < 35184372088832 then ((some (y315 ++ l0 : List Int)).bind fun y318 => (if a1 < (y318.length : Int) then (if a2 < (y318.length : Int) then (if a3 < (y318.length : Int) then (if a4 < (y318.length : Int) then (some ((((y318.set (a1 : Int).toNat bt310.1).set (a2 : Int).toNat bt310.2.1).set (a3 : Int).toNat bt310.2.2.1).set (a4 : Int).toNat bt310.2.2.2)) else (none)) else (none)) else (none)) else (none))) else (none)))) else (none)) else (none)) else (none)) else (none)) else (none)) else (none)) else (none)) else (none)) = some r := h
  clear h
  by_cases c6 : 0 ≤ a1
  · rw [if_pos c6] at H
    have c6b0 : decide (0 ≤ a1) = true := decide_eq_true c6
    clear c6
    by_cases c7 : a1 < (l0.length : Int)
    · rw [if_pos c7] at H
      have c7b0 : decide (a1 < (l0.length : Int)) = true := decide_eq_true c7
      clear c7
      by_cases c8 : 0 ≤ a2
      · rw [if_pos c8] at H
        have c8b0 : decide (0 ≤ a2) = true := decide_eq_true c8
        clear c8
        by_cases c9 : a2 < (l0.length : Int)
        · rw [if_pos c9] at H
          have c9b0 : decide (a2 < (l0.length : Int)) = true := decide_eq_true c9
          clear c9
          by_cases c10 : 0 ≤ a3
          · rw [if_pos c10] at H
            have c10b0 : decide (0 ≤ a3) = true := decide_eq_true c10
            clear c10
            by_cases c11 : a3 < (l0.length : Int)
            · rw [if_pos c11] at H
              have c11b0 : decide (a3 < (l0.length : Int)) = true := decide_eq_true c11
              clear c11
              by_cases c12 : 0 ≤ a4
              · rw [if_pos c12] at H
                have c12b0 : decide (0 ≤ a4) = true := decide_eq_true c12
                clear c12
                by_cases c13 : a4 < (l0.length : Int)
                · rw [if_pos c13] at H
                  have c13b0 : decide (a4 < (l0.length : Int)) = true := decide_eq_true c13
                  clear c13
                  replace H := Option.bind_eq_some_iff.mp H
                  obtain ⟨⟨t310, t311, t312, t313⟩, A140, H⟩ := H
                  replace H : ((some (([] : List Int) : List Int)).bind fun y315 => (if y315.length + l0.length < 35184372088832 then ((some (y315 ++ l0 : List Int)).bind fun y318 => (if a1 < (y318.length : Int) then (if a2 < (y318.length : Int) then (if a3 < (y318.length : Int) then (if a4 < (y318.length : Int) then (some ((((y318.set (a1 : Int).toNat t310).set (a2 : Int).toNat t311).set (a3 : Int).toNat t312).set (a4 : Int).toNat t313)) else (none)) else (none)) else (none)) else (none))) else (none))) = some r := H
                  have A14 := Aside0.mk A140
                  clear A140
                  obtain ⟨y315, hy315⟩ : ∃ y_ : List Int, y_ = (([] : List Int)) := ⟨_, rfl⟩
                  replace H : (if y315.length + l0.length < 35184372088832 then ((some (y315 ++ l0 : List Int)).bind fun y318 => (if a1 < (y318.length : Int) then (if a2 < (y318.length : Int) then (if a3 < (y318.length : Int) then (if a4 < (y318.length : Int) then (some ((((y318.set (a1 : Int).toNat t310).set (a2 : Int).toNat t311).set (a3 : Int).toNat t312).set (a4 : Int).toNat t313)) else (none)) else (none)) else (none)) else (none))) else (none)) = some r := by first | (rw [hy315]; with_reducible exact H) | (have H2_ := (Option.bind_some _ _).symm.trans H; rw [hy315]; with_reducible exact H2_) | (have H2_ := (Option.bind_some _ _).symm.trans H; with_reducible exact H2_) | with_reducible exact H | (rw [hy315]; exact H) | exact H
                  have Ny315 := Aside0.mk hy315
                  clear hy315
                  by_cases c15 : y315.length + l0.length < 35184372088832
                  · rw [if_pos c15] at H
                    have LMc15 := Aside0.mk c15
                    clear c15
                    obtain ⟨y318, hy318⟩ : ∃ y_ : List Int, y_ = (y315 ++ l0) := ⟨_, rfl⟩
                    replace H : (if a1 < (y318.length : Int) then (if a2 < (y318.length : Int) then (if a3 < (y318.length : Int) then (if a4 < (y318.length : Int) then (some ((((y318.set (a1 : Int).toNat t310).set (a2 : Int).toNat t311).set (a3 : Int).toNat t312).set (a4 : Int).toNat t313)) else (none)) else (none)) else (none)) else (none)) = some r := by first | (rw [hy318]; with_reducible exact H) | (have H2_ := (Option.bind_some _ _).symm.trans H; rw [hy318]; with_reducible exact H2_) | (have H2_ := (Option.bind_some _ _).symm.trans H; with_reducible exact H2_) | with_reducible exact H | (rw [hy318]; exact H) | exact H
                    have Ny318 := Aside0.mk hy318
                    clear hy318
                    by_cases c16 : a1 < (y318.length : Int)
                    · rw [if_pos c16] at H
                      have c16b0 : decide (a1 < (y318.length : Int)) = true := decide_eq_true c16
                      clear c16
                      obtain ⟨y321, hy321⟩ : ∃ y_ : List Int, y_ = (y318.set (a1 : Int).toNat t310) := ⟨_, rfl⟩
                      replace H : (if a2 < (y318.length : Int) then (if a3 < (y318.length : Int) then (if a4 < (y318.length : Int) then (some (((y321.set (a2 : Int).toNat t311).set (a3 : Int).toNat t312).set (a4 : Int).toNat t313)) else (none)) else (none)) else (none)) = some r := by first | (rw [hy321]; with_reducible exact H) | (have H2_ := (Option.bind_some _ _).symm.trans H; rw [hy321]; with_reducible exact H2_) | (have H2_ := (Option.bind_some _ _).symm.trans H; with_reducible exact H2_) | with_reducible exact H | (rw [hy321]; exact H) | exact H
                      have Ny321 := Aside0.mk hy321
                      clear hy321
                      by_cases c18 : a2 < (y318.length : Int)
                      · rw [if_pos c18] at H
                        have c18b0 : decide (a2 < (y318.length : Int)) = true := decide_eq_true c18
                        clear c18
                        obtain ⟨y322, hy322⟩ : ∃ y_ : List Int, y_ = (y321.set (a2 : Int).toNat t311) := ⟨_, rfl⟩
                        replace H : (if a3 < (y318.length : Int) then (if a4 < (y318.length : Int) then (some ((y322.set (a3 : Int).toNat t312).set (a4 : Int).toNat t313)) else (none)) else (none)) = some r := by first | (rw [hy322]; with_reducible exact H) | (have H2_ := (Option.bind_some _ _).symm.trans H; rw [hy322]; with_reducible exact H2_) | (have H2_ := (Option.bind_some _ _).symm.trans H; with_reducible exact H2_) | with_reducible exact H | (rw [hy322]; exact H) | exact H
                        have Ny322 := Aside0.mk hy322
                        clear hy322
                        by_cases c20 : a3 < (y318.length : Int)
                        · rw [if_pos c20] at H
                          have c20b0 : decide (a3 < (y318.length : Int)) = true := decide_eq_true c20
                          clear c20
                          obtain ⟨y323, hy323⟩ : ∃ y_ : List Int, y_ = (y322.set (a3 : Int).toNat t312) := ⟨_, rfl⟩
                          replace H : (if a4 < (y318.length : Int) then (some (y323.set (a4 : Int).toNat t313)) else (none)) = some r := by first | (rw [hy323]; with_reducible exact H) | (have H2_ := (Option.bind_some _ _).symm.trans H; rw [hy323]; with_reducible exact H2_) | (have H2_ := (Option.bind_some _ _).symm.trans H; with_reducible exact H2_) | with_reducible exact H | (rw [hy323]; exact H) | exact H
                          have Ny323 := Aside0.mk hy323
                          clear hy323
                          by_cases c22 : a4 < (y318.length : Int)
                          · rw [if_pos c22] at H
                            have c22b0 : decide (a4 < (y318.length : Int)) = true := decide_eq_true c22
                            clear c22
                            obtain ⟨y324, hy324⟩ : ∃ y_ : List Int, y_ = (y323.set (a4 : Int).toNat t313) := ⟨_, rfl⟩
                            replace H : (some y324) = some r := by first | (rw [hy324]; with_reducible exact H) | (have H2_ := (Option.bind_some _ _).symm.trans H; rw [hy324]; with_reducible exact H2_) | (have H2_ := (Option.bind_some _ _).symm.trans H; with_reducible exact H2_) | with_reducible exact H | (rw [hy324]; exact H) | exact H
                            have Ny324 := Aside0.mk hy324
                            clear hy324
                            obtain rfl := Option.some.inj H
                            go_enter Tryd.func85, Tryd.ntmps85
                            try go_wp2
                            have n0_ := Aside0.mk (below_drew1 HB.out)
                            clear HB
                            have HB := n0_
                            clear n0_
                            have p306 : 0 ≤ (a1 : Int) := of_decide_eq_true (by first | (with_reducible assumption) | assumption)
                            have q306 : a1 < (l0.length : Int) := of_decide_eq_true (by first | (with_reducible assumption) | assumption)
                            obtain ⟨ad306, e306, hx306_0⟩ := Kd.at_int HR0.out a1 p306 q306
                            have hw306_0 := hx306_0
                            cases e306
                            replace hx306_0 := (HB.out.cell (World.block_lt_of_cell? w _ hx306_0)).trans hx306_0
                            replace p306 := eq_true p306
                            replace q306 := eq_true q306
                            have p307 : 0 ≤ (a2 : Int) := of_decide_eq_true (by first | (with_reducible assumption) | assumption)
                            have q307 : a2 < (l0.length : Int) := of_decide_eq_true (by first | (with_reducible assumption) | assumption)
                            obtain ⟨ad307, e307, hx307_0⟩ := Kd.at_int HR0.out a2 p307 q307
                            have hw307_0 := hx307_0
                            obtain rfl : ad306 = ad307 := (by injection e307)
                            replace hx307_0 := (HB.out.cell (World.block_lt_of_cell? w _ hx307_0)).trans hx307_0
                            replace p307 := eq_true p307
                            replace q307 := eq_true q307
                            have p308 : 0 ≤ (a3 : Int) := of_decide_eq_true (by first | (with_reducible assumption) | assumption)
                            have q308 : a3 < (l0.length : Int) := of_decide_eq_true (by first | (with_reducible assumption) | assumption)
                            obtain ⟨ad308, e308, hx308_0⟩ := Kd.at_int HR0.out a3 p308 q308
                            have hw308_0 := hx308_0
                            obtain rfl : ad306 = ad308 := (by injection e308)
                            replace hx308_0 := (HB.out.cell (World.block_lt_of_cell? w _ hx308_0)).trans hx308_0
                            replace p308 := eq_true p308
                            replace q308 := eq_true q308
                            have p309 : 0 ≤ (a4 : Int) := of_decide_eq_true (by first | (with_reducible assumption) | assumption)
                            have q309 : a4 < (l0.length : Int) := of_decide_eq_true (by first | (with_reducible assumption) | assumption)
                            obtain ⟨ad309, e309, hx309_0⟩ := Kd.at_int HR0.out a4 p309 q309
                            have hw309_0 := hx309_0
                            obtain rfl : ad306 = ad309 := (by injection e309)
                            replace hx309_0 := (HB.out.cell (World.block_lt_of_cell? w _ hx309_0)).trans hx309_0
                            replace p309 := eq_true p309
                            replace q309 := eq_true q309
                            refine start_ (n := 20) (S := fun w' => w'.cell? (ad306.add (a1).toNat) = some (.int .u32 (rd l0 a1)) ∧ w'.cell? (ad306.add (a2).toNat) = some (.int .u32 (rd l0 a2)) ∧ w'.cell? (ad306.add (a3).toNat) = some (.int .u32 (rd l0 a3)) ∧ w'.cell? (ad306.add (a4).toNat) = some (.int .u32 (rd l0 a4))) (ds := []) #[false, false, false, false, false, false, false, false, false, false, false, false, false, false, false, false, false, false, false, false] (by kernel_rfl) rfl rfl ⟨((HB.out.cell (World.block_lt_of_cell? w _ hw306_0)).trans hw306_0), ((HB.out.cell (World.block_lt_of_cell? w _ hw307_0)).trans hw307_0), ((HB.out.cell (World.block_lt_of_cell? w _ hw308_0)).trans hw308_0), ((HB.out.cell (World.block_lt_of_cell? w _ hw309_0)).trans hw309_0)⟩ (fun hHeld => ?_); refine with_tabW demurralref05_mix.tab1 demurralref05_mix.bits1 (fun HT_ HW_ => ?_)
                            generalize w.drew = w24 at HB hx306_0 hx307_0 hx308_0 hx309_0 hHeld ⊢
                            refine pure_ (i := 0) (N := some 13) (v := ?_) (a' := ?_) #[true, false, false, false, false, false, false, false, false, false, false, false, false, false, false, false, false, false, false, false] rfl rfl (any_of HT_.out (by kernel_rfl)) (fun _ _ _ h => h) (Or.inl ⟨by rfl, ?_⟩) ?_ ?_
                            rotate_left
                            · intro w'
                              go_simp
                              with_reducible rfl
                            rotate_left
                            · simp only [Act.put, List.setIfInBounds_toArray, List.set_cons_zero, List.set_cons_succ, i64_w, i32_w]
                              rfl
                            refine pure_ (i := 1) (N := some 14) (v := ?_) (a' := ?_) #[true, true, false, false, false, false, false, false, false, false, false, false, false, false, false, false, false, false, false, false] rfl rfl (any_of HT_.out (by kernel_rfl)) (fun _ _ _ h => h) (Or.inl ⟨by rfl, ?_⟩) ?_ ?_
                            rotate_left
                            · intro w'
                              go_simp
                              with_reducible rfl
                            rotate_left
                            · simp only [Act.put, List.setIfInBounds_toArray, List.set_cons_zero, List.set_cons_succ, i64_w, i32_w]
                              rfl
                            refine pure_ (i := 2) (N := some 15) (v := ?_) (a' := ?_) #[true, true, true, false, false, false, false, false, false, false, false, false, false, false, false, false, false, false, false, false] rfl rfl (any_of HT_.out (by kernel_rfl)) (fun _ _ _ h => h) (Or.inl ⟨by rfl, ?_⟩) ?_ ?_
                            rotate_left
                            · intro w'
                              go_simp
                              with_reducible rfl
                            rotate_left
                            · simp only [Act.put, List.setIfInBounds_toArray, List.set_cons_zero, List.set_cons_succ, i64_w, i32_w]
                              rfl
                            refine pure_ (i := 4) (N := some 17) (v := ?_) (a' := ?_) #[true, true, true, false, true, false, false, false, false, false, false, false, false, false, false, false, false, false, false, false] rfl rfl (any_of HT_.out (by kernel_rfl)) (fun _ _ _ h => h) (Or.inl ⟨by rfl, ?_⟩) ?_ ?_
                            rotate_left
                            · intro w'
                              go_simp
                              with_reducible rfl
                            rotate_left
                            · simp only [Act.put, List.setIfInBounds_toArray, List.set_cons_zero, List.set_cons_succ, i64_w, i32_w]
                              rfl
                            refine pure_ (i := 5) (N := some 18) (v := ?_) (a' := ?_) #[true, true, true, false, true, true, false, false, false, false, false, false, false, false, false, false, false, false, false, false] rfl rfl (any_of HT_.out (by kernel_rfl)) (fun _ _ _ h => h) (Or.inl ⟨by rfl, ?_⟩) ?_ ?_
                            rotate_left
                            · intro w'
                              go_simp
                              with_reducible rfl
                            rotate_left
                            · simp only [Act.put, List.setIfInBounds_toArray, List.set_cons_zero, List.set_cons_succ, i64_w, i32_w]
                              rfl
                            refine pure_ (i := 6) (N := some 19) (v := ?_) (a' := ?_) #[true, true, true, false, true, true, true, false, false, false, false, false, false, false, false, false, false, false, false, false] rfl rfl (any_of HT_.out (by kernel_rfl)) (fun _ _ _ h => h) (Or.inl ⟨by rfl, ?_⟩) ?_ ?_
                            rotate_left
                            · intro w'
                              go_simp
                              with_reducible rfl
                            rotate_left
                            · simp only [Act.put, List.setIfInBounds_toArray, List.set_cons_zero, List.set_cons_succ, i64_w, i32_w]
                              rfl
                            refine pure_ (i := 8) (N := some 21) (v := ?_) (a' := ?_) #[true, true, true, false, true, true, true, false, true, false, false, false, false, false, false, false, false, false, false, false] rfl rfl (any_of HT_.out (by kernel_rfl)) (fun _ _ _ h => h) (Or.inl ⟨by rfl, ?_⟩) ?_ ?_
                            rotate_left
                            · intro w'
                              go_simp
                              with_reducible rfl
                            rotate_left
                            · simp only [Act.put, List.setIfInBounds_toArray, List.set_cons_zero, List.set_cons_succ, i64_w, i32_w]
                              rfl
                            refine pure_ (i := 9) (N := some 22) (v := ?_) (a' := ?_) #[true, true, true, false, true, true, true, false, true, true, false, false, false, false, false, false, false, false, false, false] rfl rfl (any_of HT_.out (by kernel_rfl)) (fun _ _ _ h => h) (Or.inl ⟨by rfl, ?_⟩) ?_ ?_
                            rotate_left
                            · intro w'
                              go_simp
                              with_reducible rfl
                            rotate_left
                            · simp only [Act.put, List.setIfInBounds_toArray, List.set_cons_zero, List.set_cons_succ, i64_w, i32_w]
                              rfl
                            refine pure_ (i := 10) (N := some 23) (v := ?_) (a' := ?_) #[true, true, true, false, true, true, true, false, true, true, true, false, false, false, false, false, false, false, false, false] rfl rfl (any_of HT_.out (by kernel_rfl)) (fun _ _ _ h => h) (Or.inl ⟨by rfl, ?_⟩) ?_ ?_
                            rotate_left
                            · intro w'
                              go_simp
                              with_reducible rfl
                            rotate_left
                            · simp only [Act.put, List.setIfInBounds_toArray, List.set_cons_zero, List.set_cons_succ, i64_w, i32_w]
                              rfl
                            refine pure_ (i := 12) (N := some 25) (v := ?_) (a' := ?_) #[true, true, true, false, true, true, true, false, true, true, true, false, true, false, false, false, false, false, false, false] rfl rfl (any_of HT_.out (by kernel_rfl)) (fun _ _ _ h => h) (Or.inl ⟨by rfl, ?_⟩) ?_ ?_
                            rotate_left
                            · intro w'
                              go_simp
                              with_reducible rfl
                            rotate_left
                            · simp only [Act.put, List.setIfInBounds_toArray, List.set_cons_zero, List.set_cons_succ, i64_w, i32_w]
                              rfl
                            refine pure_ (i := 13) (N := some 26) (v := ?_) (a' := ?_) #[true, true, true, false, true, true, true, false, true, true, true, false, true, true, false, false, false, false, false, false] rfl rfl (any_of HT_.out (by kernel_rfl)) (fun _ _ _ h => h) (Or.inl ⟨by rfl, ?_⟩) ?_ ?_
                            rotate_left
                            · intro w'
                              go_simp
                              with_reducible rfl
                            rotate_left
                            · simp only [Act.put, List.setIfInBounds_toArray, List.set_cons_zero, List.set_cons_succ, i64_w, i32_w]
                              rfl
                            refine pure_ (i := 14) (N := some 27) (v := ?_) (a' := ?_) #[true, true, true, false, true, true, true, false, true, true, true, false, true, true, true, false, false, false, false, false] rfl rfl (any_of HT_.out (by kernel_rfl)) (fun _ _ _ h => h) (Or.inl ⟨by rfl, ?_⟩) ?_ ?_
                            rotate_left
                            · intro w'
                              go_simp
                              with_reducible rfl
                            rotate_left
                            · simp only [Act.put, List.setIfInBounds_toArray, List.set_cons_zero, List.set_cons_succ, i64_w, i32_w]
                              rfl
                            refine take_ (i := 3) (N := some 16) (v := ?_) (a' := ?_) #[true, true, true, true, true, true, true, false, true, true, true, false, true, true, true, false, false, false, false, false] rfl rfl (take_ofW HT_.out HW_.out (by kernel_rfl)) (fun _ _ _ h => h) (Or.inl ⟨by rfl, ?_⟩) hHeld ?_ ?_
                            rotate_left
                            · rintro w' ⟨s0, s1, s2, s3⟩
                              go_simp
                              with_reducible rfl
                            rotate_left
                            · simp only [Act.put, List.setIfInBounds_toArray, List.set_cons_zero, List.set_cons_succ, i64_w, i32_w]
                              rfl
                            refine take_ (i := 7) (N := some 20) (v := ?_) (a' := ?_) #[true, true, true, true, true, true, true, true, true, true, true, false, true, true, true, false, false, false, false, false] rfl rfl (take_ofW HT_.out HW_.out (by kernel_rfl)) (fun _ _ _ h => h) (Or.inl ⟨by rfl, ?_⟩) hHeld ?_ ?_
                            rotate_left
                            · rintro w' ⟨s0, s1, s2, s3⟩
                              go_simp
                              with_reducible rfl
                            rotate_left
                            · simp only [Act.put, List.setIfInBounds_toArray, List.set_cons_zero, List.set_cons_succ, i64_w, i32_w]
                              rfl
                            refine take_ (i := 11) (N := some 24) (v := ?_) (a' := ?_) #[true, true, true, true, true, true, true, true, true, true, true, true, true, true, true, false, false, false, false, false] rfl rfl (take_ofW HT_.out HW_.out (by kernel_rfl)) (fun _ _ _ h => h) (Or.inl ⟨by rfl, ?_⟩) hHeld ?_ ?_
                            rotate_left
                            · rintro w' ⟨s0, s1, s2, s3⟩
                              go_simp
                              with_reducible rfl
                            rotate_left
                            · simp only [Act.put, List.setIfInBounds_toArray, List.set_cons_zero, List.set_cons_succ, i64_w, i32_w]
                              rfl
                            refine take_ (i := 15) (N := some 28) (v := ?_) (a' := ?_) #[true, true, true, true, true, true, true, true, true, true, true, true, true, true, true, true, false, false, false, false] rfl rfl (take_ofW HT_.out HW_.out (by kernel_rfl)) (fun _ _ _ h => h) (Or.inl ⟨by rfl, ?_⟩) hHeld ?_ ?_
                            rotate_left
                            · rintro w' ⟨s0, s1, s2, s3⟩
                              go_simp
                              with_reducible rfl
                            rotate_left
                            · simp only [Act.put, List.setIfInBounds_toArray, List.set_cons_zero, List.set_cons_succ, i64_w, i32_w]
                              rfl
                            refine pure_ (i := 16) (N := some 29) (v := ?_) (a' := ?_) #[true, true, true, true, true, true, true, true, true, true, true, true, true, true, true, true, true, false, false, false] rfl rfl (any_of HT_.out (by kernel_rfl)) (fun _ _ _ h => h) (Or.inl ⟨by rfl, ?_⟩) ?_ ?_
                            rotate_left
                            · intro w'
                              go_simp
                              with_reducible rfl
                            rotate_left
                            · simp only [Act.put, List.setIfInBounds_toArray, List.set_cons_zero, List.set_cons_succ, i64_w, i32_w]
                              rfl
                            refine join_ (σ := Nat) 1 #[true, true, true, true, true, true, true, true, true, true, true, true, true, true, true, true, true, true, true, false] (fun s_ => [(30, .agg #[.int .u32 t310, .int .u32 t311, .int .u32 t312, .int .u32 t313]), (11, .pointer (some ⟨s_, 0, none⟩))]) (fun s_ w' => (w'.cell? (ad306.add (a1).toNat) = some (.int .u32 (rd l0 a1)) ∧ w'.cell? (ad306.add (a2).toNat) = some (.int .u32 (rd l0 a2)) ∧ w'.cell? (ad306.add (a3).toNat) = some (.int .u32 (rd l0 a3)) ∧ w'.cell? (ad306.add (a4).toNat) = some (.int .u32 (rd l0 a4))) ∧ (w'.heap[s_]? = some (.cells #[.int .u32 0, .int .u32 0, .int .u32 0, .int .u32 0] 147 (0, 0))) ∧ (w.heap.size ≤ s_) ∧ (w.heap.size ≤ s_) ∧ (Below w.heap.size w w')) ?_ ?_
                            rotate_left
                            · intro hCont
                              refine two_ (i := 17) (j := 18) (Ni := some 30) (Nj := some 11) #[true, true, true, true, true, true, true, true, true, true, true, true, true, true, true, true, true, true, false, false] #[true, true, true, true, true, true, true, true, true, true, true, true, true, true, true, true, true, false, true, false] rfl rfl rfl rfl (two_of HT_.out (by kernel_rfl)) (by decide) (by decide) (fun K hK => ?_) (fun K hK => ?_)
                              · skip
                                refine goes_ Tryd.func104 (by kernel_rfl) rfl #[.agg #[.int .u32 (rd l0 a1), .int .u32 (rd l0 a2), .int .u32 (rd l0 a3), .int .u32 (rd l0 a4)]] (by rfl) rfl rfl (by (try simp only [List.map_toArray, List.map_cons, List.map_nil]); first | done | rfl | (simp only [List.length_drop, List.length_take]; rfl)) ?_
                                with_reducible refine (demurralref05_Quarter.calls (rd l0 a1) (rd l0 a2) (rd l0 a3) (rd l0 a4) t310 t311 t312 t313 _ A14.out).mono ?_
                                rintro e w25 ⟨rfl, hb⟩
                                refine ⟨_, rfl, ?_⟩
                                have n0_ := Aside0.mk (below_step (by repeat (first | (with_reducible first | exact HB.out | apply below_alloc | apply pw_below_drewN | apply below_drew1) | exact HB.out)) hb)
                                clear HB
                                have HB := n0_
                                clear n0_
                                (try clear hb)
                                (try clear hb2)
                                (try clear hk)
                                (try clear hi)
                                refine hK.out _ _ ⟨((HB.out.cell (World.block_lt_of_cell? w _ hw306_0)).trans hw306_0), ((HB.out.cell (World.block_lt_of_cell? w _ hw307_0)).trans hw307_0), ((HB.out.cell (World.block_lt_of_cell? w _ hw308_0)).trans hw308_0), ((HB.out.cell (World.block_lt_of_cell? w _ hw309_0)).trans hw309_0)⟩ (fun hHeld => ?_)
                                clear hK K
                                refine norm_ (a' := ?_) ?_ ?_
                                rotate_left
                                · show Act.put _ (some 30) _ = _
                                  simp only [Act.put, List.setIfInBounds_toArray, List.set_cons_zero, List.set_cons_succ, i64_w, i32_w]
                                  rfl
                                refine one_ (i := 18) (N := some 11) #[true, true, true, true, true, true, true, true, true, true, true, true, true, true, true, true, true, true, true, false] rfl rfl (one_of HT_.out (by kernel_rfl)) (by decide) (fun K hK => ?_)
                                refine box_step ?hg (N := 11) ?hd (cs := #[.int .u32 0, .int .u32 0, .int .u32 0, .int .u32 0]) (t := 147) ?hr ?_; (case hd => rfl); (case hg => rfl); (case hr => first | (go_simp; done) | (go_simp; rfl))
                                intro gb314 hg w26 hbox hb
                                have n0_ := Aside0.mk (below_step (by repeat (first | (with_reducible first | exact HB.out | apply below_alloc | apply pw_below_drewN | apply below_drew1) | exact HB.out)) hb)
                                have n1_ := Aside0.mk (hbox)
                                have n2_ := Aside0.mk ((by rw [hg]; exact (below_size (by repeat (first | (with_reducible first | exact HB.out | apply below_alloc | apply pw_below_drewN | apply below_drew1) | exact HB.out))) : w.heap.size ≤ gb314))
                                have n3_ := Aside0.mk ((by rw [hg]; exact (below_size (by repeat (first | (with_reducible first | exact HB.out | apply below_alloc | apply pw_below_drewN | apply below_drew1) | exact HB.out))) : w.heap.size ≤ gb314))
                                clear HB
                                have HB := n0_
                                have BK314 := n1_
                                have GW314 := n2_
                                have GE314 := n3_
                                clear n0_ n1_ n2_ n3_
                                clear hb hbox hg
                                refine hK.out _ _ ⟨((HB.out.cell (World.block_lt_of_cell? w _ hw306_0)).trans hw306_0), ((HB.out.cell (World.block_lt_of_cell? w _ hw307_0)).trans hw307_0), ((HB.out.cell (World.block_lt_of_cell? w _ hw308_0)).trans hw308_0), ((HB.out.cell (World.block_lt_of_cell? w _ hw309_0)).trans hw309_0)⟩ (fun hHeld => ?_)
                                clear hK K
                                refine norm_ (a' := ?_) ?_ ?_
                                rotate_left
                                · show Act.put _ (some 11) _ = _
                                  simp only [Act.put, List.setIfInBounds_toArray, List.set_cons_zero, List.set_cons_succ, i64_w, i32_w]
                                  rfl
                                exact norm_ (by simp only [putAll, Act.put, List.setIfInBounds_toArray, List.set_cons_zero, List.set_cons_succ]) (hCont (gb314) _ ⟨hHeld, (by (with_reducible repeat (first | refine blk_drewN ?_ _ | refine blk_drew ?_ | refine blk_alloc ?_ _)); exact BK314.out), GW314.out, GE314.out, (by repeat (first | (with_reducible first | exact HB.out | apply below_alloc | apply pw_below_drewN | apply below_drew1 | refine below_set ?_ GE314.out) | exact HB.out))⟩)
                              · skip
                                refine box_step ?hg (N := 11) ?hd (cs := #[.int .u32 0, .int .u32 0, .int .u32 0, .int .u32 0]) (t := 147) ?hr ?_; (case hd => rfl); (case hg => rfl); (case hr => first | (go_simp; done) | (go_simp; rfl))
                                intro gb314 hg w25 hbox hb
                                have n0_ := Aside0.mk (below_step (by repeat (first | (with_reducible first | exact HB.out | apply below_alloc | apply pw_below_drewN | apply below_drew1) | exact HB.out)) hb)
                                have n1_ := Aside0.mk (hbox)
                                have n2_ := Aside0.mk ((by rw [hg]; exact (below_size (by repeat (first | (with_reducible first | exact HB.out | apply below_alloc | apply pw_below_drewN | apply below_drew1) | exact HB.out))) : w.heap.size ≤ gb314))
                                have n3_ := Aside0.mk ((by rw [hg]; exact (below_size (by repeat (first | (with_reducible first | exact HB.out | apply below_alloc | apply pw_below_drewN | apply below_drew1) | exact HB.out))) : w.heap.size ≤ gb314))
                                clear HB
                                have HB := n0_
                                have BK314 := n1_
                                have GW314 := n2_
                                have GE314 := n3_
                                clear n0_ n1_ n2_ n3_
                                clear hb hbox hg
                                refine hK.out _ _ ⟨((HB.out.cell (World.block_lt_of_cell? w _ hw306_0)).trans hw306_0), ((HB.out.cell (World.block_lt_of_cell? w _ hw307_0)).trans hw307_0), ((HB.out.cell (World.block_lt_of_cell? w _ hw308_0)).trans hw308_0), ((HB.out.cell (World.block_lt_of_cell? w _ hw309_0)).trans hw309_0)⟩ (fun hHeld => ?_)
                                clear hK K
                                refine norm_ (a' := ?_) ?_ ?_
                                rotate_left
                                · show Act.put _ (some 11) _ = _
                                  simp only [Act.put, List.setIfInBounds_toArray, List.set_cons_zero, List.set_cons_succ, i64_w, i32_w]
                                  rfl
                                refine one_ (i := 17) (N := some 30) #[true, true, true, true, true, true, true, true, true, true, true, true, true, true, true, true, true, true, true, false] rfl rfl (one_of HT_.out (by kernel_rfl)) (by decide) (fun K hK => ?_)
                                refine goes_ Tryd.func104 (by kernel_rfl) rfl #[.agg #[.int .u32 (rd l0 a1), .int .u32 (rd l0 a2), .int .u32 (rd l0 a3), .int .u32 (rd l0 a4)]] (by rfl) rfl rfl (by (try simp only [List.map_toArray, List.map_cons, List.map_nil]); first | done | rfl | (simp only [List.length_drop, List.length_take]; rfl)) ?_
                                with_reducible refine (demurralref05_Quarter.calls (rd l0 a1) (rd l0 a2) (rd l0 a3) (rd l0 a4) t310 t311 t312 t313 _ A14.out).mono ?_
                                rintro e w26 ⟨rfl, hb⟩
                                refine ⟨_, rfl, ?_⟩
                                have n0_ := Aside0.mk (blk_below (g := gb314) (o := .cells #[.int .u32 0, .int .u32 0, .int .u32 0, .int .u32 0] 147 (0, 0)) (by (with_reducible repeat (first | refine blk_drewN ?_ _ | refine blk_drew ?_ | refine blk_alloc ?_ _)); exact BK314.out) hb)
                                have n1_ := Aside0.mk (below_step (by repeat (first | (with_reducible first | exact HB.out | apply below_alloc | apply pw_below_drewN | apply below_drew1 | refine below_set ?_ GE314.out) | exact HB.out)) hb)
                                clear BK314
                                clear HB
                                have BK314 := n0_
                                have HB := n1_
                                clear n0_ n1_
                                (try clear hb)
                                (try clear hb2)
                                (try clear hk)
                                (try clear hi)
                                refine hK.out _ _ ⟨((HB.out.cell (World.block_lt_of_cell? w _ hw306_0)).trans hw306_0), ((HB.out.cell (World.block_lt_of_cell? w _ hw307_0)).trans hw307_0), ((HB.out.cell (World.block_lt_of_cell? w _ hw308_0)).trans hw308_0), ((HB.out.cell (World.block_lt_of_cell? w _ hw309_0)).trans hw309_0)⟩ (fun hHeld => ?_)
                                clear hK K
                                refine norm_ (a' := ?_) ?_ ?_
                                rotate_left
                                · show Act.put _ (some 30) _ = _
                                  simp only [Act.put, List.setIfInBounds_toArray, List.set_cons_zero, List.set_cons_succ, i64_w, i32_w]
                                  rfl
                                exact norm_ (by simp only [putAll, Act.put, List.setIfInBounds_toArray, List.set_cons_zero, List.set_cons_succ]) (hCont (gb314) _ ⟨hHeld, (by (with_reducible repeat (first | refine blk_drewN ?_ _ | refine blk_drew ?_ | refine blk_alloc ?_ _)); exact BK314.out), GW314.out, GE314.out, (by repeat (first | (with_reducible first | exact HB.out | apply below_alloc | apply pw_below_drewN | apply below_drew1 | refine below_set ?_ GE314.out) | exact HB.out))⟩)
                            rintro gb314 w27 ⟨hS_, h0_, h1_, h2_, h3_⟩
                            have n0_ : Aside0 (w27.heap[gb314]? = some (.cells #[.int .u32 0, .int .u32 0, .int .u32 0, .int .u32 0] 147 (0, 0))) := ⟨h0_⟩
                            have n1_ : Aside0 (w.heap.size ≤ gb314) := ⟨h1_⟩
                            have n2_ : Aside0 (w.heap.size ≤ gb314) := ⟨h2_⟩
                            have n3_ : Aside0 (Below w.heap.size w w27) := ⟨h3_⟩
                            clear HB
                            clear h0_ h1_ h2_ h3_
                            have BK314 := n0_
                            have GW314 := n1_
                            have GE314 := n2_
                            have HB := n3_
                            clear n0_ n1_ n2_ n3_
                            have hHeld : w27.cell? (ad306.add (a1).toNat) = some (.int .u32 (rd l0 a1)) ∧ w27.cell? (ad306.add (a2).toNat) = some (.int .u32 (rd l0 a2)) ∧ w27.cell? (ad306.add (a3).toNat) = some (.int .u32 (rd l0 a3)) ∧ w27.cell? (ad306.add (a4).toNat) = some (.int .u32 (rd l0 a4)) := hS_
                            refine norm_ (a' := ?_) ?_ ?_
                            rotate_left
                            · simp only [putAll, Act.put, List.setIfInBounds_toArray, List.set_cons_zero, List.set_cons_succ]
                              rfl
                            refine one_ (i := 19) (N := none) #[true, true, true, true, true, true, true, true, true, true, true, true, true, true, true, true, true, true, true, true] rfl rfl (one_of HT_.out (by kernel_rfl)) (by decide) (fun K hK => ?_)
                            have hs28 : w27.cell? ⟨gb314, 0, none⟩ = some (.int .u32 0) := (blk_cell BK314.out 0).trans rfl
                            have hfs28 := blk_frozen BK314.out 0
                            have hs29 : w27.cell? ⟨gb314, 1, none⟩ = some (.int .u32 0) := (blk_cell BK314.out 1).trans rfl
                            have hfs29 := blk_frozen BK314.out 1
                            have hs30 : w27.cell? ⟨gb314, 2, none⟩ = some (.int .u32 0) := (blk_cell BK314.out 2).trans rfl
                            have hfs30 := blk_frozen BK314.out 2
                            have hs31 : w27.cell? ⟨gb314, 3, none⟩ = some (.int .u32 0) := (blk_cell BK314.out 3).trans rfl
                            have hfs31 := blk_frozen BK314.out 3
                            refine skip_ (w1 := ?_) (by rfl) rfl ?_ ?_
                            rotate_left
                            · go_simp
                              rfl
                            refine hK.out _ _ ⟨((cell_far (p := ⟨gb314, _, none⟩) (by first | exact Nat.ne_of_lt (Nat.lt_of_lt_of_le (by have := World.block_lt_of_cell? _ _ hw306_0; first | rwa [add_block] at this | exact this) GW314.out) | (rw [add_block]; exact Nat.ne_of_lt (Nat.lt_of_lt_of_le (by have := World.block_lt_of_cell? _ _ hw306_0; first | rwa [add_block] at this | exact this) GW314.out)) | (show (Addr.add _ _).block ≠ _; rw [add_block]; exact Nat.ne_of_lt (Nat.lt_of_lt_of_le (by have := World.block_lt_of_cell? _ _ hw306_0; first | rwa [add_block] at this | exact this) GW314.out)) | (dsimp only; exact Nat.ne_of_lt (Nat.lt_of_lt_of_le (by have := World.block_lt_of_cell? _ _ hw306_0; first | rwa [add_block] at this | exact this) GW314.out))) _).trans (((cell_far (p := ⟨gb314, _, none⟩) (by first | exact Nat.ne_of_lt (Nat.lt_of_lt_of_le (by have := World.block_lt_of_cell? _ _ hw306_0; first | rwa [add_block] at this | exact this) GW314.out) | (rw [add_block]; exact Nat.ne_of_lt (Nat.lt_of_lt_of_le (by have := World.block_lt_of_cell? _ _ hw306_0; first | rwa [add_block] at this | exact this) GW314.out)) | (show (Addr.add _ _).block ≠ _; rw [add_block]; exact Nat.ne_of_lt (Nat.lt_of_lt_of_le (by have := World.block_lt_of_cell? _ _ hw306_0; first | rwa [add_block] at this | exact this) GW314.out)) | (dsimp only; exact Nat.ne_of_lt (Nat.lt_of_lt_of_le (by have := World.block_lt_of_cell? _ _ hw306_0; first | rwa [add_block] at this | exact this) GW314.out))) _).trans (((cell_far (p := ⟨gb314, _, none⟩) (by first | exact Nat.ne_of_lt (Nat.lt_of_lt_of_le (by have := World.block_lt_of_cell? _ _ hw306_0; first | rwa [add_block] at this | exact this) GW314.out) | (rw [add_block]; exact Nat.ne_of_lt (Nat.lt_of_lt_of_le (by have := World.block_lt_of_cell? _ _ hw306_0; first | rwa [add_block] at this | exact this) GW314.out)) | (show (Addr.add _ _).block ≠ _; rw [add_block]; exact Nat.ne_of_lt (Nat.lt_of_lt_of_le (by have := World.block_lt_of_cell? _ _ hw306_0; first | rwa [add_block] at this | exact this) GW314.out)) | (dsimp only; exact Nat.ne_of_lt (Nat.lt_of_lt_of_le (by have := World.block_lt_of_cell? _ _ hw306_0; first | rwa [add_block] at this | exact this) GW314.out))) _).trans (((cell_far (p := ⟨gb314, _, none⟩) (by first | exact Nat.ne_of_lt (Nat.lt_of_lt_of_le (by have := World.block_lt_of_cell? _ _ hw306_0; first | rwa [add_block] at this | exact this) GW314.out) | (rw [add_block]; exact Nat.ne_of_lt (Nat.lt_of_lt_of_le (by have := World.block_lt_of_cell? _ _ hw306_0; first | rwa [add_block] at this | exact this) GW314.out)) | (show (Addr.add _ _).block ≠ _; rw [add_block]; exact Nat.ne_of_lt (Nat.lt_of_lt_of_le (by have := World.block_lt_of_cell? _ _ hw306_0; first | rwa [add_block] at this | exact this) GW314.out)) | (dsimp only; exact Nat.ne_of_lt (Nat.lt_of_lt_of_le (by have := World.block_lt_of_cell? _ _ hw306_0; first | rwa [add_block] at this | exact this) GW314.out))) _).trans (hHeld.1)))))))), ((cell_far (p := ⟨gb314, _, none⟩) (by first | exact Nat.ne_of_lt (Nat.lt_of_lt_of_le (by have := World.block_lt_of_cell? _ _ hw307_0; first | rwa [add_block] at this | exact this) GW314.out) | (rw [add_block]; exact Nat.ne_of_lt (Nat.lt_of_lt_of_le (by have := World.block_lt_of_cell? _ _ hw307_0; first | rwa [add_block] at this | exact this) GW314.out)) | (show (Addr.add _ _).block ≠ _; rw [add_block]; exact Nat.ne_of_lt (Nat.lt_of_lt_of_le (by have := World.block_lt_of_cell? _ _ hw307_0; first | rwa [add_block] at this | exact this) GW314.out)) | (dsimp only; exact Nat.ne_of_lt (Nat.lt_of_lt_of_le (by have := World.block_lt_of_cell? _ _ hw307_0; first | rwa [add_block] at this | exact this) GW314.out))) _).trans (((cell_far (p := ⟨gb314, _, none⟩) (by first | exact Nat.ne_of_lt (Nat.lt_of_lt_of_le (by have := World.block_lt_of_cell? _ _ hw307_0; first | rwa [add_block] at this | exact this) GW314.out) | (rw [add_block]; exact Nat.ne_of_lt (Nat.lt_of_lt_of_le (by have := World.block_lt_of_cell? _ _ hw307_0; first | rwa [add_block] at this | exact this) GW314.out)) | (show (Addr.add _ _).block ≠ _; rw [add_block]; exact Nat.ne_of_lt (Nat.lt_of_lt_of_le (by have := World.block_lt_of_cell? _ _ hw307_0; first | rwa [add_block] at this | exact this) GW314.out)) | (dsimp only; exact Nat.ne_of_lt (Nat.lt_of_lt_of_le (by have := World.block_lt_of_cell? _ _ hw307_0; first | rwa [add_block] at this | exact this) GW314.out))) _).trans (((cell_far (p := ⟨gb314, _, none⟩) (by first | exact Nat.ne_of_lt (Nat.lt_of_lt_of_le (by have := World.block_lt_of_cell? _ _ hw307_0; first | rwa [add_block] at this | exact this) GW314.out) | (rw [add_block]; exact Nat.ne_of_lt (Nat.lt_of_lt_of_le (by have := World.block_lt_of_cell? _ _ hw307_0; first | rwa [add_block] at this | exact this) GW314.out)) | (show (Addr.add _ _).block ≠ _; rw [add_block]; exact Nat.ne_of_lt (Nat.lt_of_lt_of_le (by have := World.block_lt_of_cell? _ _ hw307_0; first | rwa [add_block] at this | exact this) GW314.out)) | (dsimp only; exact Nat.ne_of_lt (Nat.lt_of_lt_of_le (by have := World.block_lt_of_cell? _ _ hw307_0; first | rwa [add_block] at this | exact this) GW314.out))) _).trans (((cell_far (p := ⟨gb314, _, none⟩) (by first | exact Nat.ne_of_lt (Nat.lt_of_lt_of_le (by have := World.block_lt_of_cell? _ _ hw307_0; first | rwa [add_block] at this | exact this) GW314.out) | (rw [add_block]; exact Nat.ne_of_lt (Nat.lt_of_lt_of_le (by have := World.block_lt_of_cell? _ _ hw307_0; first | rwa [add_block] at this | exact this) GW314.out)) | (show (Addr.add _ _).block ≠ _; rw [add_block]; exact Nat.ne_of_lt (Nat.lt_of_lt_of_le (by have := World.block_lt_of_cell? _ _ hw307_0; first | rwa [add_block] at this | exact this) GW314.out)) | (dsimp only; exact Nat.ne_of_lt (Nat.lt_of_lt_of_le (by have := World.block_lt_of_cell? _ _ hw307_0; first | rwa [add_block] at this | exact this) GW314.out))) _).trans (hHeld.2.1)))))))), ((cell_far (p := ⟨gb314, _, none⟩) (by first | exact Nat.ne_of_lt (Nat.lt_of_lt_of_le (by have := World.block_lt_of_cell? _ _ hw308_0; first | rwa [add_block] at this | exact this) GW314.out) | (rw [add_block]; exact Nat.ne_of_lt (Nat.lt_of_lt_of_le (by have := World.block_lt_of_cell? _ _ hw308_0; first | rwa [add_block] at this | exact this) GW314.out)) | (show (Addr.add _ _).block ≠ _; rw [add_block]; exact Nat.ne_of_lt (Nat.lt_of_lt_of_le (by have := World.block_lt_of_cell? _ _ hw308_0; first | rwa [add_block] at this | exact this) GW314.out)) | (dsimp only; exact Nat.ne_of_lt (Nat.lt_of_lt_of_le (by have := World.block_lt_of_cell? _ _ hw308_0; first | rwa [add_block] at this | exact this) GW314.out))) _).trans (((cell_far (p := ⟨gb314, _, none⟩) (by first | exact Nat.ne_of_lt (Nat.lt_of_lt_of_le (by have := World.block_lt_of_cell? _ _ hw308_0; first | rwa [add_block] at this | exact this) GW314.out) | (rw [add_block]; exact Nat.ne_of_lt (Nat.lt_of_lt_of_le (by have := World.block_lt_of_cell? _ _ hw308_0; first | rwa [add_block] at this | exact this) GW314.out)) | (show (Addr.add _ _).block ≠ _; rw [add_block]; exact Nat.ne_of_lt (Nat.lt_of_lt_of_le (by have := World.block_lt_of_cell? _ _ hw308_0; first | rwa [add_block] at this | exact this) GW314.out)) | (dsimp only; exact Nat.ne_of_lt (Nat.lt_of_lt_of_le (by have := World.block_lt_of_cell? _ _ hw308_0; first | rwa [add_block] at this | exact this) GW314.out))) _).trans (((cell_far (p := ⟨gb314, _, none⟩) (by first | exact Nat.ne_of_lt (Nat.lt_of_lt_of_le (by have := World.block_lt_of_cell? _ _ hw308_0; first | rwa [add_block] at this | exact this) GW314.out) | (rw [add_block]; exact Nat.ne_of_lt (Nat.lt_of_lt_of_le (by have := World.block_lt_of_cell? _ _ hw308_0; first | rwa [add_block] at this | exact this) GW314.out)) | (show (Addr.add _ _).block ≠ _; rw [add_block]; exact Nat.ne_of_lt (Nat.lt_of_lt_of_le (by have := World.block_lt_of_cell? _ _ hw308_0; first | rwa [add_block] at this | exact this) GW314.out)) | (dsimp only; exact Nat.ne_of_lt (Nat.lt_of_lt_of_le (by have := World.block_lt_of_cell? _ _ hw308_0; first | rwa [add_block] at this | exact this) GW314.out))) _).trans (((cell_far (p := ⟨gb314, _, none⟩) (by first | exact Nat.ne_of_lt (Nat.lt_of_lt_of_le (by have := World.block_lt_of_cell? _ _ hw308_0; first | rwa [add_block] at this | exact this) GW314.out) | (rw [add_block]; exact Nat.ne_of_lt (Nat.lt_of_lt_of_le (by have := World.block_lt_of_cell? _ _ hw308_0; first | rwa [add_block] at this | exact this) GW314.out)) | (show (Addr.add _ _).block ≠ _; rw [add_block]; exact Nat.ne_of_lt (Nat.lt_of_lt_of_le (by have := World.block_lt_of_cell? _ _ hw308_0; first | rwa [add_block] at this | exact this) GW314.out)) | (dsimp only; exact Nat.ne_of_lt (Nat.lt_of_lt_of_le (by have := World.block_lt_of_cell? _ _ hw308_0; first | rwa [add_block] at this | exact this) GW314.out))) _).trans (hHeld.2.2.1)))))))), ((cell_far (p := ⟨gb314, _, none⟩) (by first | exact Nat.ne_of_lt (Nat.lt_of_lt_of_le (by have := World.block_lt_of_cell? _ _ hw309_0; first | rwa [add_block] at this | exact this) GW314.out) | (rw [add_block]; exact Nat.ne_of_lt (Nat.lt_of_lt_of_le (by have := World.block_lt_of_cell? _ _ hw309_0; first | rwa [add_block] at this | exact this) GW314.out)) | (show (Addr.add _ _).block ≠ _; rw [add_block]; exact Nat.ne_of_lt (Nat.lt_of_lt_of_le (by have := World.block_lt_of_cell? _ _ hw309_0; first | rwa [add_block] at this | exact this) GW314.out)) | (dsimp only; exact Nat.ne_of_lt (Nat.lt_of_lt_of_le (by have := World.block_lt_of_cell? _ _ hw309_0; first | rwa [add_block] at this | exact this) GW314.out))) _).trans (((cell_far (p := ⟨gb314, _, none⟩) (by first | exact Nat.ne_of_lt (Nat.lt_of_lt_of_le (by have := World.block_lt_of_cell? _ _ hw309_0; first | rwa [add_block] at this | exact this) GW314.out) | (rw [add_block]; exact Nat.ne_of_lt (Nat.lt_of_lt_of_le (by have := World.block_lt_of_cell? _ _ hw309_0; first | rwa [add_block] at this | exact this) GW314.out)) | (show (Addr.add _ _).block ≠ _; rw [add_block]; exact Nat.ne_of_lt (Nat.lt_of_lt_of_le (by have := World.block_lt_of_cell? _ _ hw309_0; first | rwa [add_block] at this | exact this) GW314.out)) | (dsimp only; exact Nat.ne_of_lt (Nat.lt_of_lt_of_le (by have := World.block_lt_of_cell? _ _ hw309_0; first | rwa [add_block] at this | exact this) GW314.out))) _).trans (((cell_far (p := ⟨gb314, _, none⟩) (by first | exact Nat.ne_of_lt (Nat.lt_of_lt_of_le (by have := World.block_lt_of_cell? _ _ hw309_0; first | rwa [add_block] at this | exact this) GW314.out) | (rw [add_block]; exact Nat.ne_of_lt (Nat.lt_of_lt_of_le (by have := World.block_lt_of_cell? _ _ hw309_0; first | rwa [add_block] at this | exact this) GW314.out)) | (show (Addr.add _ _).block ≠ _; rw [add_block]; exact Nat.ne_of_lt (Nat.lt_of_lt_of_le (by have := World.block_lt_of_cell? _ _ hw309_0; first | rwa [add_block] at this | exact this) GW314.out)) | (dsimp only; exact Nat.ne_of_lt (Nat.lt_of_lt_of_le (by have := World.block_lt_of_cell? _ _ hw309_0; first | rwa [add_block] at this | exact this) GW314.out))) _).trans (((cell_far (p := ⟨gb314, _, none⟩) (by first | exact Nat.ne_of_lt (Nat.lt_of_lt_of_le (by have := World.block_lt_of_cell? _ _ hw309_0; first | rwa [add_block] at this | exact this) GW314.out) | (rw [add_block]; exact Nat.ne_of_lt (Nat.lt_of_lt_of_le (by have := World.block_lt_of_cell? _ _ hw309_0; first | rwa [add_block] at this | exact this) GW314.out)) | (show (Addr.add _ _).block ≠ _; rw [add_block]; exact Nat.ne_of_lt (Nat.lt_of_lt_of_le (by have := World.block_lt_of_cell? _ _ hw309_0; first | rwa [add_block] at this | exact this) GW314.out)) | (dsimp only; exact Nat.ne_of_lt (Nat.lt_of_lt_of_le (by have := World.block_lt_of_cell? _ _ hw309_0; first | rwa [add_block] at this | exact this) GW314.out))) _).trans (hHeld.2.2.2))))))))⟩ (fun hHeld => ?_)
                            clear hK K
                            refine done_ (done_of HT_.out (by kernel_rfl)) ?_
                            try go_wp2_with (first | ((with_reducible refine gate_dst (N := 31) rfl ?_); refine Kd.R_lit (Kd.int .u32) _ 83 ?hg (N := 31) ?hd (xs := ([] : List Int)) (inner := []) (ok := fun _ => True) (okp := fun _ => True) ?hr ?hp (fun _ hk => hk) trivial (Below.refl _ _) (Nat.le_refl _) (by simp) ?_; (case hd => rfl); (case hg => rfl); (case hr => first | (go_simp; done) | (go_simp; rfl)); (case hp => exact (Reps.none _ _)); intro v316 w32 ho33 hb hg_ hnew_; clear hg_ hnew_; (first | rw [← Ny315.out] at ho33 | (simp only [Int.reduceToNat] at ho33; rw [← Ny315.out] at ho33)); have n0_ := Aside0.mk (Kd.R_lower ho33 (below_size (by repeat (first | (with_reducible first | exact HB.out | apply below_alloc | apply pw_below_drewN | apply below_drew1 | refine below_set ?_ GE314.out) | exact HB.out)))); have n1_ := Aside0.mk (blk_below (g := gb314) (o := .cells #[.int .u32 t310, .int .u32 t311, .int .u32 t312, .int .u32 t313] 147 (0, 0)) (by (with_reducible repeat (first | refine blk_drewN ?_ _ | refine blk_drew ?_ | refine blk_alloc ?_ _)); refine blk_put (cs := #[.int .u32 t310, .int .u32 t311, .int .u32 t312, .int .u32 0]) ?_ 3 _ rfl; (with_reducible repeat (first | refine blk_drewN ?_ _ | refine blk_drew ?_ | refine blk_alloc ?_ _)); refine blk_put (cs := #[.int .u32 t310, .int .u32 t311, .int .u32 0, .int .u32 0]) ?_ 2 _ rfl; (with_reducible repeat (first | refine blk_drewN ?_ _ | refine blk_drew ?_ | refine blk_alloc ?_ _)); refine blk_put (cs := #[.int .u32 t310, .int .u32 0, .int .u32 0, .int .u32 0]) ?_ 1 _ rfl; (with_reducible repeat (first | refine blk_drewN ?_ _ | refine blk_drew ?_ | refine blk_alloc ?_ _)); refine blk_put (cs := #[.int .u32 0, .int .u32 0, .int .u32 0, .int .u32 0]) ?_ 0 _ rfl; (with_reducible repeat (first | refine blk_drewN ?_ _ | refine blk_drew ?_ | refine blk_alloc ?_ _)); exact BK314.out) hb); have n2_ := Aside0.mk (below_step (by repeat (first | (with_reducible first | exact HB.out | apply below_alloc | apply pw_below_drewN | apply below_drew1 | refine below_set ?_ GE314.out) | exact HB.out)) hb); clear BK314; clear HB; have HO317 := n0_; have BK314 := n1_; have HB := n2_; clear n0_ n1_ n2_; clear hb ho33) | ((with_reducible refine gate_builtin (b := .append) (xs := #[.tmp 32, .tmp 33]) rfl ?_); at_builtin; refine Kd.R_append_rows (Kd.int .u32) (w0 := w) w.heap.size rfl (.tmp 32) (.tmp 33) 31 83 (.int .u32 0) 4 rfl Tryd.underlying31 info83 rfl (by decide) (by omega) v316 y315 l0 _ _ _ (fun _ => True) (fun _ => False) rfl rfl ?aO ?aR (fun _ _ h => h) (fun _ h => h.elim) ?aF ?aB ?aS ?aL ?_; (case aR => repeat (first | exact (Kd.C_below HR0.out HB.out) | (with_reducible refine Kd.C_alloc ?_ _) | (with_reducible refine Kd.C_drewN ?_ _) | (with_reducible refine Kd.C_drew ?_))); (case aB => exact (by repeat (first | (with_reducible first | exact HB.out | apply below_alloc | apply pw_below_drewN | apply below_drew1 | refine below_set ?_ GE314.out) | exact HB.out))); (case aF => exact (fun _ _ => trivial)); (case aO => exact (by (with_reducible repeat (first | apply Kd.R_alloc | apply Kd.R_drewN | apply Kd.R_drew)); exact HO317.out)); (case aS => exact (below_size (by repeat (first | (with_reducible first | exact HB.out | apply below_alloc | apply pw_below_drewN | apply below_drew1 | refine below_set ?_ GE314.out) | exact HB.out)))); (case aL => have := LMc15.out; omega); intro v319 w34 ho hb hg hat; rw [← Ny318.out] at ho; have n0_ := Aside0.mk (blk_grown (g := gb314) (o := .cells #[.int .u32 t310, .int .u32 t311, .int .u32 t312, .int .u32 t313] 147 (0, 0)) (by (with_reducible repeat (first | refine blk_drewN ?_ _ | refine blk_drew ?_ | refine blk_alloc ?_ _)); exact BK314.out) hg (Kd.R_ne HO317.out BK314.out (by decide))); have n1_ := Aside0.mk (hb); have n2_ := Aside0.mk (ho); clear BK314; clear HB; clear HO317; have BK314 := n0_; have HB := n1_; have HO320 := n2_; clear n0_ n1_ n2_; clear ho hb hg hat; have hcz35_0 : w34.cell? ⟨gb314, 0, none⟩ = some (.int .u32 t310) := (blk_cell BK314.out 0).trans rfl; have hcz35_1 : w34.cell? ⟨gb314, 1, none⟩ = some (.int .u32 t311) := (blk_cell BK314.out 1).trans rfl; have hcz35_2 : w34.cell? ⟨gb314, 2, none⟩ = some (.int .u32 t312) := (blk_cell BK314.out 2).trans rfl; have hcz35_3 : w34.cell? ⟨gb314, 3, none⟩ = some (.int .u32 t313) := (blk_cell BK314.out 3).trans rfl; have hfz35_0 := blk_frozen BK314.out 0; have hfz35_1 := blk_frozen BK314.out 1; have hfz35_2 := blk_frozen BK314.out 2; have hfz35_3 := blk_frozen BK314.out 3; have p17 : 0 ≤ (a1 : Int) := of_decide_eq_true (by first | (with_reducible assumption) | assumption); have q17 : (a1 : Int) < ((y318.length : Int) : Int) := of_decide_eq_true (by first | (with_reducible assumption) | assumption); obtain ⟨go17, co17, eo17, gb17, gl17, cl17, HG17⟩ := Kd.R_form HO320.out (by omega); (first | cases eo17 | (injection eo17 with ea_ en_ ec_; (first | subst ea_ | (injection ea_ with ea_; subst ea_)); subst ec_; clear en_)); have GB17 := Aside0.mk gb17; have GG17 := Aside0.mk HG17; clear gb17 gl17 HG17; obtain ⟨hx17_0, hf17_0⟩ := Kd.R_celln 0 HO320.out (a1 : Int) p17 q17; replace p17 := eq_true p17; replace q17 := eq_true q17; obtain ⟨hy36_, hz36_⟩ := Kd.R_celln 0 HO320.out (a1 : Int) (of_decide_eq_true (by first | (with_reducible assumption) | assumption)) (of_decide_eq_true (by first | (with_reducible assumption) | assumption)); have HP36 := Kd.R_putg HO320.out (a1 : Int) t310) | ((with_reducible refine gate_store (t := 83) (p := 39) rfl ?_); refine store_event (t := 83) (p := 39) (v := ?vo_w37) (w1 := (w34.setCell ⟨go17, (a1 : Int).toNat, none⟩ (.int .u32 t310))) ?hg ?ho ?hn ?hr ?_; (case ho => rfl); (case hg => rfl); (case hn => rfl); (case hr => first | (go_simp; done) | (go_simp; rfl)); intro w37 hw; have hg : w34.grownBy w37 (some go17) := (by rw [hw]; exact HP36.2); have hp_ : Kd.R (Kd.int .u32) 83 w37 w.heap.size (fun _ => True) (.slice (some ⟨go17, 0, none⟩) y318.length co17) y321 := (by rw [hw, Ny321.out]; exact HP36.1); clear HP36; have n0_ := Aside0.mk (blk_grown (g := gb314) (o := .cells #[.int .u32 t310, .int .u32 t311, .int .u32 t312, .int .u32 t313] 147 (0, 0)) (by (with_reducible repeat (first | refine blk_drewN ?_ _ | refine blk_drew ?_ | refine blk_alloc ?_ _)); exact BK314.out) hg (Kd.R_ne HO320.out BK314.out (by decide))); have n1_ := Aside0.mk (hp_); have n2_ := Aside0.mk ((by rw [hw]; exact below_set (HB.out) GB17.out : Below w.heap.size w w37)); clear BK314; clear HO320; clear HB; have BK314 := n0_; have HO320 := n1_; have HB := n2_; clear n0_ n1_ n2_; clear hg hw hp_; have hcz38_0 : w37.cell? ⟨gb314, 0, none⟩ = some (.int .u32 t310) := (blk_cell BK314.out 0).trans rfl; have hcz38_1 : w37.cell? ⟨gb314, 1, none⟩ = some (.int .u32 t311) := (blk_cell BK314.out 1).trans rfl; have hcz38_2 : w37.cell? ⟨gb314, 2, none⟩ = some (.int .u32 t312) := (blk_cell BK314.out 2).trans rfl; have hcz38_3 : w37.cell? ⟨gb314, 3, none⟩ = some (.int .u32 t313) := (blk_cell BK314.out 3).trans rfl; have hfz38_0 := blk_frozen BK314.out 0; have hfz38_1 := blk_frozen BK314.out 1; have hfz38_2 := blk_frozen BK314.out 2; have hfz38_3 := blk_frozen BK314.out 3; have p19 : 0 ≤ (a2 : Int) := of_decide_eq_true (by first | (with_reducible assumption) | assumption); have q19 : (a2 : Int) < ((y318.length : Int) : Int) := of_decide_eq_true (by first | (with_reducible assumption) | assumption); obtain ⟨hx19_0, hf19_0⟩ := Kd.R_celln 0 HO320.out (a2 : Int) p19 q19; replace p19 := eq_true p19; replace q19 := eq_true q19; obtain ⟨hy39_, hz39_⟩ := Kd.R_celln 0 HO320.out (a2 : Int) (of_decide_eq_true (by first | (with_reducible assumption) | assumption)) (of_decide_eq_true (by first | (with_reducible assumption) | assumption)); have HP39 := Kd.R_putg HO320.out (a2 : Int) t311) | ((with_reducible refine gate_store (t := 83) (p := 44) rfl ?_); refine store_event (t := 83) (p := 44) (v := ?vo_w40) (w1 := (w37.setCell ⟨go17, (a2 : Int).toNat, none⟩ (.int .u32 t311))) ?hg ?ho ?hn ?hr ?_; (case ho => rfl); (case hg => rfl); (case hn => rfl); (case hr => first | (go_simp; done) | (go_simp; rfl)); intro w40 hw; have hg : w37.grownBy w40 (some go17) := (by rw [hw]; exact HP39.2); have hp_ : Kd.R (Kd.int .u32) 83 w40 w.heap.size (fun _ => True) (.slice (some ⟨go17, 0, none⟩) y318.length co17) y322 := (by rw [hw, Ny322.out]; exact HP39.1); clear HP39; have n0_ := Aside0.mk (blk_grown (g := gb314) (o := .cells #[.int .u32 t310, .int .u32 t311, .int .u32 t312, .int .u32 t313] 147 (0, 0)) (by (with_reducible repeat (first | refine blk_drewN ?_ _ | refine blk_drew ?_ | refine blk_alloc ?_ _)); exact BK314.out) hg (Kd.R_ne HO320.out BK314.out (by decide))); have n1_ := Aside0.mk (hp_); have n2_ := Aside0.mk ((by rw [hw]; exact below_set (HB.out) GB17.out : Below w.heap.size w w40)); clear BK314; clear HO320; clear HB; have BK314 := n0_; have HO320 := n1_; have HB := n2_; clear n0_ n1_ n2_; clear hg hw hp_; have hcz41_0 : w40.cell? ⟨gb314, 0, none⟩ = some (.int .u32 t310) := (blk_cell BK314.out 0).trans rfl; have hcz41_1 : w40.cell? ⟨gb314, 1, none⟩ = some (.int .u32 t311) := (blk_cell BK314.out 1).trans rfl; have hcz41_2 : w40.cell? ⟨gb314, 2, none⟩ = some (.int .u32 t312) := (blk_cell BK314.out 2).trans rfl; have hcz41_3 : w40.cell? ⟨gb314, 3, none⟩ = some (.int .u32 t313) := (blk_cell BK314.out 3).trans rfl; have hfz41_0 := blk_frozen BK314.out 0; have hfz41_1 := blk_frozen BK314.out 1; have hfz41_2 := blk_frozen BK314.out 2; have hfz41_3 := blk_frozen BK314.out 3; have p21 : 0 ≤ (a3 : Int) := of_decide_eq_true (by first | (with_reducible assumption) | assumption); have q21 : (a3 : Int) < ((y318.length : Int) : Int) := of_decide_eq_true (by first | (with_reducible assumption) | assumption); obtain ⟨hx21_0, hf21_0⟩ := Kd.R_celln 0 HO320.out (a3 : Int) p21 q21; replace p21 := eq_true p21; replace q21 := eq_true q21; obtain ⟨hy42_, hz42_⟩ := Kd.R_celln 0 HO320.out (a3 : Int) (of_decide_eq_true (by first | (with_reducible assumption) | assumption)) (of_decide_eq_true (by first | (with_reducible assumption) | assumption)); have HP42 := Kd.R_putg HO320.out (a3 : Int) t312) | ((with_reducible refine gate_store (t := 83) (p := 49) rfl ?_); refine store_event (t := 83) (p := 49) (v := ?vo_w43) (w1 := (w40.setCell ⟨go17, (a3 : Int).toNat, none⟩ (.int .u32 t312))) ?hg ?ho ?hn ?hr ?_; (case ho => rfl); (case hg => rfl); (case hn => rfl); (case hr => first | (go_simp; done) | (go_simp; rfl)); intro w43 hw; have hg : w40.grownBy w43 (some go17) := (by rw [hw]; exact HP42.2); have hp_ : Kd.R (Kd.int .u32) 83 w43 w.heap.size (fun _ => True) (.slice (some ⟨go17, 0, none⟩) y318.length co17) y323 := (by rw [hw, Ny323.out]; exact HP42.1); clear HP42; have n0_ := Aside0.mk (blk_grown (g := gb314) (o := .cells #[.int .u32 t310, .int .u32 t311, .int .u32 t312, .int .u32 t313] 147 (0, 0)) (by (with_reducible repeat (first | refine blk_drewN ?_ _ | refine blk_drew ?_ | refine blk_alloc ?_ _)); exact BK314.out) hg (Kd.R_ne HO320.out BK314.out (by decide))); have n1_ := Aside0.mk (hp_); have n2_ := Aside0.mk ((by rw [hw]; exact below_set (HB.out) GB17.out : Below w.heap.size w w43)); clear BK314; clear HO320; clear HB; have BK314 := n0_; have HO320 := n1_; have HB := n2_; clear n0_ n1_ n2_; clear hg hw hp_; have hcz44_0 : w43.cell? ⟨gb314, 0, none⟩ = some (.int .u32 t310) := (blk_cell BK314.out 0).trans rfl; have hcz44_1 : w43.cell? ⟨gb314, 1, none⟩ = some (.int .u32 t311) := (blk_cell BK314.out 1).trans rfl; have hcz44_2 : w43.cell? ⟨gb314, 2, none⟩ = some (.int .u32 t312) := (blk_cell BK314.out 2).trans rfl; have hcz44_3 : w43.cell? ⟨gb314, 3, none⟩ = some (.int .u32 t313) := (blk_cell BK314.out 3).trans rfl; have hfz44_0 := blk_frozen BK314.out 0; have hfz44_1 := blk_frozen BK314.out 1; have hfz44_2 := blk_frozen BK314.out 2; have hfz44_3 := blk_frozen BK314.out 3; have p23 : 0 ≤ (a4 : Int) := of_decide_eq_true (by first | (with_reducible assumption) | assumption); have q23 : (a4 : Int) < ((y318.length : Int) : Int) := of_decide_eq_true (by first | (with_reducible assumption) | assumption); obtain ⟨hx23_0, hf23_0⟩ := Kd.R_celln 0 HO320.out (a4 : Int) p23 q23; replace p23 := eq_true p23; replace q23 := eq_true q23; obtain ⟨hy45_, hz45_⟩ := Kd.R_celln 0 HO320.out (a4 : Int) (of_decide_eq_true (by first | (with_reducible assumption) | assumption)) (of_decide_eq_true (by first | (with_reducible assumption) | assumption)); have HP45 := Kd.R_putg HO320.out (a4 : Int) t313) | ((with_reducible refine gate_store (t := 83) (p := 54) rfl ?_); refine store_event (t := 83) (p := 54) (v := ?vo_w46) (w1 := (w43.setCell ⟨go17, (a4 : Int).toNat, none⟩ (.int .u32 t313))) ?hg ?ho ?hn ?hr ?_; (case ho => rfl); (case hg => rfl); (case hn => rfl); (case hr => first | (go_simp; done) | (go_simp; rfl)); intro w46 hw; have hg : w43.grownBy w46 (some go17) := (by rw [hw]; exact HP45.2); have hp_ : Kd.R (Kd.int .u32) 83 w46 w.heap.size (fun _ => True) (.slice (some ⟨go17, 0, none⟩) y318.length co17) y324 := (by rw [hw, Ny324.out]; exact HP45.1); clear HP45; have n0_ := Aside0.mk (blk_grown (g := gb314) (o := .cells #[.int .u32 t310, .int .u32 t311, .int .u32 t312, .int .u32 t313] 147 (0, 0)) (by (with_reducible repeat (first | refine blk_drewN ?_ _ | refine blk_drew ?_ | refine blk_alloc ?_ _)); exact BK314.out) hg (Kd.R_ne HO320.out BK314.out (by decide))); have n1_ := Aside0.mk (hp_); have n2_ := Aside0.mk ((by rw [hw]; exact below_set (HB.out) GB17.out : Below w.heap.size w w46)); clear BK314; clear HO320; clear HB; have BK314 := n0_; have HO320 := n1_; have HB := n2_; clear n0_ n1_ n2_; clear hg hw hp_))
                            go_ret
                            exact ⟨_, by first | rfl | (simp [errW_none, errW_some] <;> rfl) | (simp [*, errW_none, errW_some] <;> rfl), by (with_reducible repeat (first | apply Kd.R_alloc | apply Kd.R_drewN | apply Kd.R_drew)); exact HO320.out, by repeat (first | (with_reducible first | exact HB.out | apply below_alloc | apply pw_below_drewN | apply below_drew1 | refine below_set ?_ GE314.out) | exact HB.out)⟩
                          · rw [if_neg c22] at H
                            exact absurd H (by simp)
                        · rw [if_neg c20] at H
                          exact absurd H (by simp)
                      · rw [if_neg c18] at H
                        exact absurd H (by simp)
                    · rw [if_neg c16] at H
                      exact absurd H (by simp)
                  · rw [if_neg c15] at H
                    exact absurd H (by simp)
                · rw [if_neg c13] at H
                  exact absurd H (by simp)
              · rw [if_neg c12] at H
                exact absurd H (by simp)
            · rw [if_neg c11] at H
              exact absurd H (by simp)
          · rw [if_neg c10] at H
            exact absurd H (by simp)
        · rw [if_neg c9] at H
          exact absurd H (by simp)
      · rw [if_neg c8] at H
        exact absurd H (by simp)
    · rw [if_neg c7] at H
      exact absurd H (by simp)
  · rw [if_neg c6] at H
    exact absurd H (by simp)

/-! ### demurralref05_word: function 103 -/
def demurralref05_word.f (a0 : ByteArray) : Option (Int) := if 0 < (a0.size : Int) then (if 1 < (a0.size : Int) then (if 2 < (a0.size : Int) then (if 3 < (a0.size : Int) then (some ((((((((bt a0 0) % 4294967296) + ((256 * ((bt a0 1) % 4294967296)) % 4294967296)) % 4294967296) + ((65536 * ((bt a0 2) % 4294967296)) % 4294967296)) % 4294967296) + ((16777216 * ((bt a0 3) % 4294967296)) % 4294967296)) % 4294967296)) else (none)) else (none)) else (none)) else (none)
set_option maxHeartbeats 8000000 in
set_option maxRecDepth 100000 in
theorem demurralref05_word.calls (a0 : ByteArray) (r : Int) (w : World) (h : demurralref05_word.f a0 = some r) :
    Calls Tryd.prog 103 #[.string a0] w fun e w' => e = .returned (.int .u32 r) ∧ Drawn0 w w' := by
  have H : (if 0 < (a0.size : Int) then (if 1 < (a0.size : Int) then (if 2 < (a0.size : Int) then (if 3 < (a0.size : Int) then (some ((((((((bt a0 0) % 4294967296) + ((256 * ((bt a0 1) % 4294967296)) % 4294967296)) % 4294967296) + ((65536 * ((bt a0 2) % 4294967296)) % 4294967296)) % 4294967296) + ((16777216 * ((bt a0 3) % 4294967296)) % 4294967296)) % 4294967296)) else (none)) else (none)) else (none)) else (none)) = some r := h
  clear h
  by_cases c2 : 0 < (a0.size : Int)
  · rw [if_pos c2] at H
    have c2b0 : decide (0 < (a0.size : Int)) = true := decide_eq_true c2
    have c2b1 : decide (0 < a0.size) = true := decide_eq_true (by omega)
    clear c2
    by_cases c4 : 1 < (a0.size : Int)
    · rw [if_pos c4] at H
      have c4b0 : decide (1 < (a0.size : Int)) = true := decide_eq_true c4
      have c4b1 : decide (1 < a0.size) = true := decide_eq_true (by omega)
      clear c4
      by_cases c6 : 2 < (a0.size : Int)
      · rw [if_pos c6] at H
        have c6b0 : decide (2 < (a0.size : Int)) = true := decide_eq_true c6
        have c6b1 : decide (2 < a0.size) = true := decide_eq_true (by omega)
        clear c6
        by_cases c8 : 3 < (a0.size : Int)
        · rw [if_pos c8] at H
          have c8b0 : decide (3 < (a0.size : Int)) = true := decide_eq_true c8
          have c8b1 : decide (3 < a0.size) = true := decide_eq_true (by omega)
          clear c8
          obtain rfl := Option.some.inj H
          have p3 : 0 ≤ (0 : Int) := (by omega)
          have q3 : 0 < a0.size := (by have : (0 : Int) < (a0.size : Int) := of_decide_eq_true (by first | (with_reducible assumption) | assumption); omega)
          have hx3 : ∀ h : 0 < a0.size, ((a0[0]'h).toNat : Int) = bt a0 0 := bt_at a0 0
          clear p3
          have qi3 : (0 < (a0.size : Int)) = True := eq_true (of_decide_eq_true (by first | (with_reducible assumption) | assumption))
          replace q3 := eq_true q3
          have p5 : 0 ≤ (1 : Int) := (by omega)
          have q5 : 1 < a0.size := (by have : (1 : Int) < (a0.size : Int) := of_decide_eq_true (by first | (with_reducible assumption) | assumption); omega)
          have hx5 : ∀ h : 1 < a0.size, ((a0[1]'h).toNat : Int) = bt a0 1 := bt_at a0 1
          clear p5
          have qi5 : (1 < (a0.size : Int)) = True := eq_true (of_decide_eq_true (by first | (with_reducible assumption) | assumption))
          replace q5 := eq_true q5
          have p7 : 0 ≤ (2 : Int) := (by omega)
          have q7 : 2 < a0.size := (by have : (2 : Int) < (a0.size : Int) := of_decide_eq_true (by first | (with_reducible assumption) | assumption); omega)
          have hx7 : ∀ h : 2 < a0.size, ((a0[2]'h).toNat : Int) = bt a0 2 := bt_at a0 2
          clear p7
          have qi7 : (2 < (a0.size : Int)) = True := eq_true (of_decide_eq_true (by first | (with_reducible assumption) | assumption))
          replace q7 := eq_true q7
          have p9 : 0 ≤ (3 : Int) := (by omega)
          have q9 : 3 < a0.size := (by have : (3 : Int) < (a0.size : Int) := of_decide_eq_true (by first | (with_reducible assumption) | assumption); omega)
          have hx9 : ∀ h : 3 < a0.size, ((a0[3]'h).toNat : Int) = bt a0 3 := bt_at a0 3
          clear p9
          have qi9 : (3 < (a0.size : Int)) = True := eq_true (of_decide_eq_true (by first | (with_reducible assumption) | assumption))
          replace q9 := eq_true q9
          go_enter Tryd.func103, Tryd.ntmps103
          go_wp2
          repeat (go_quiet (fail); try go_wp2)
          go_ret
          exact ⟨by first | rfl | (simp; done) | (simp [*]; done), by repeat (first | exact Drawn0.refl _ | apply Drawn0.step)⟩
        · rw [if_neg c8] at H
          exact absurd H (by simp)
      · rw [if_neg c6] at H
        exact absurd H (by simp)
    · rw [if_neg c4] at H
      exact absurd H (by simp)
  · rw [if_neg c2] at H
    exact absurd H (by simp)

/-! ### demurralref05_first: function 84 -/
mutual
def demurralref05_first.l0 : Nat → ByteArray → Int → ByteArray → List Int → Int → Option (List Int)
  | 0, _, _, _, _, _ => none
  | k + 1, x0, x1, x2, x7, x8 => if x8 < 8 then (if 0 ≤ (wrap64 (4 * x8)) then (if (wrap64 (4 * x8)) ≤ (wrap64 ((wrap64 (4 * x8)) + 4)) then (if (wrap64 ((wrap64 (4 * x8)) + 4)) ≤ (x0.size : Int) then ((demurralref05_word.f (x0.extract ((wrap64 (4 * x8)) : Int).toNat ((wrap64 ((wrap64 (4 * x8)) + 4)) : Int).toNat)).bind fun t289 => (if x7.length < 35184372088832 then (demurralref05_first.l0 k x0 x1 x2 (x7 ++ [t289]) (wrap64 (x8 + 1))) else (none))) else (none)) else (none)) else (none)) else (if x7.length < 35184372088832 then (demurralref05_first.l1 k x2 (x7 ++ [x1]) 0) else (none))
def demurralref05_first.l1 : Nat → ByteArray → List Int → Int → Option (List Int)
  | 0, _, _, _ => none
  | k + 1, x2, x7, x9 => if x9 < 3 then (if 0 ≤ (wrap64 (4 * x9)) then (if (wrap64 (4 * x9)) ≤ (wrap64 ((wrap64 (4 * x9)) + 4)) then (if (wrap64 ((wrap64 (4 * x9)) + 4)) ≤ (x2.size : Int) then ((demurralref05_word.f (x2.extract ((wrap64 (4 * x9)) : Int).toNat ((wrap64 ((wrap64 (4 * x9)) + 4)) : Int).toNat)).bind fun t296 => (if x7.length < 35184372088832 then (demurralref05_first.l1 k x2 (x7 ++ [t296]) (wrap64 (x9 + 1))) else (none))) else (none)) else (none)) else (none)) else (some x7)
end
def demurralref05_first.f (k : Nat) (a0 : ByteArray) (a1 : Int) (a2 : ByteArray) : Option (List Int) := demurralref05_first.l0 k a0 a1 a2 (([1634760805, 857760878, 2036477234, 1797285236] : List Int)) 0
theorem demurralref05_first.mono_l : ∀ k, (∀ y0 y1 y2 y3 y4, LeO (demurralref05_first.l0 k y0 y1 y2 y3 y4) (demurralref05_first.l0 (k + 1) y0 y1 y2 y3 y4)) ∧ (∀ y0 y1 y2, LeO (demurralref05_first.l1 k y0 y1 y2) (demurralref05_first.l1 (k + 1) y0 y1 y2))
  | 0 => ⟨fun _ _ _ _ _ r h => by simp [demurralref05_first.l0] at h, fun _ _ _ r h => by simp [demurralref05_first.l1] at h⟩
  | k + 1 => by
    obtain ⟨ih0, ih1⟩ := demurralref05_first.mono_l k
    refine ⟨?_, ?_⟩
    · intro y0 y1 y2 y3 y4
      unfold demurralref05_first.l0
      repeat' first
      | (with_reducible exact ih0 _ _ _ _ _)
      | (with_reducible exact ih1 _ _ _)
      | (with_reducible exact LeO.refl _)
      | (with_reducible exact LeO.none _)
      | (with_reducible refine LeO.ite ?_ ?_)
      | (with_reducible refine LeO.bind ?_ (fun _ => ?_))
      | exact ih0 _ _ _ _ _
      | exact ih1 _ _ _
      | exact LeO.none _
      | refine LeO.ite ?_ ?_
      | refine LeO.bind ?_ (fun _ => ?_)
    · intro y0 y1 y2
      unfold demurralref05_first.l1
      repeat' first
      | (with_reducible exact ih0 _ _ _ _ _)
      | (with_reducible exact ih1 _ _ _)
      | (with_reducible exact LeO.refl _)
      | (with_reducible exact LeO.none _)
      | (with_reducible refine LeO.ite ?_ ?_)
      | (with_reducible refine LeO.bind ?_ (fun _ => ?_))
      | exact ih0 _ _ _ _ _
      | exact ih1 _ _ _
      | exact LeO.none _
      | refine LeO.ite ?_ ?_
      | refine LeO.bind ?_ (fun _ => ?_)
theorem demurralref05_first.mono : ∀ a0 a1 a2 k, LeO (demurralref05_first.f k a0 a1 a2) (demurralref05_first.f (k + 1) a0 a1 a2) := by
  intro a0 a1 a2 k
  obtain ⟨ih0, ih1⟩ := demurralref05_first.mono_l k
  unfold demurralref05_first.f
  repeat' first
      | (with_reducible exact ih0 _ _ _ _ _)
      | (with_reducible exact ih1 _ _ _)
      | (with_reducible exact LeO.refl _)
      | (with_reducible exact LeO.none _)
      | (with_reducible refine LeO.ite ?_ ?_)
      | (with_reducible refine LeO.bind ?_ (fun _ => ?_))
      | exact ih0 _ _ _ _ _
      | exact ih1 _ _ _
      | exact LeO.none _
      | refine LeO.ite ?_ ?_
      | refine LeO.bind ?_ (fun _ => ?_)
set_option maxHeartbeats 8000000 in
set_option maxRecDepth 100000 in
theorem demurralref05_first.calls (k : Nat) (a0 : ByteArray) (a1 : Int) (a2 : ByteArray) (r : List Int) (w : World) (h : demurralref05_first.f k a0 a1 a2 = some r) :
    Calls Tryd.prog 84 #[.string a0, .int .u32 a1, .string a2] w fun e w' => ∃ v0_ : Value, e = .returned (v0_) ∧ Kd.R (Kd.int .u32) 83 w' w.heap.size (fun _ => True) v0_ r ∧ Below w.heap.size w w' := by
  have HB := Aside0.mk (Below.refl w.heap.size w)
  have H : (demurralref05_first.l0 k a0 a1 a2 (([1634760805, 857760878, 2036477234, 1797285236] : List Int)) 0) = some r := h
  clear h
  obtain ⟨y286, hy286⟩ : ∃ y_ : List Int, y_ = (([1634760805, 857760878, 2036477234, 1797285236] : List Int)) := ⟨_, rfl⟩
  replace H : (demurralref05_first.l0 k a0 a1 a2 y286 0) = some r := by first | (rw [hy286]; with_reducible exact H) | (have H2_ := (Option.bind_some _ _).symm.trans H; rw [hy286]; with_reducible exact H2_) | (have H2_ := (Option.bind_some _ _).symm.trans H; with_reducible exact H2_) | with_reducible exact H | (rw [hy286]; exact H) | exact H
  have Ny286 := Aside0.mk hy286
  clear hy286
  have H' := Aside0.mk H
  clear H
  go_enter Tryd.func84, Tryd.ntmps84
  go_wp2_with (first | ((with_reducible refine gate_dst (N := 10) rfl ?_); refine Kd.R_lit (Kd.int .u32) _ 83 ?hg (N := 10) ?hd (xs := ([1634760805, 857760878, 2036477234, 1797285236] : List Int)) (inner := [.int .u32 1634760805, .int .u32 857760878, .int .u32 2036477234, .int .u32 1797285236]) (ok := fun _ => True) (okp := fun _ => True) ?hr ?hp (fun _ hk => hk) trivial (Below.refl _ _) (Nat.le_refl _) (by simp) ?_; (case hd => rfl); (case hg => rfl); (case hr => first | (go_simp; done) | (go_simp; rfl)); (case hp => exact (Reps.one (show Kd.M (Kd.int .u32) _ _ _ 1634760805 [.int .u32 1634760805] from rfl) (Reps.one (show Kd.M (Kd.int .u32) _ _ _ 857760878 [.int .u32 857760878] from rfl) (Reps.one (show Kd.M (Kd.int .u32) _ _ _ 2036477234 [.int .u32 2036477234] from rfl) (Reps.one (show Kd.M (Kd.int .u32) _ _ _ 1797285236 [.int .u32 1797285236] from rfl) (Reps.none _ _)))))); intro v287 w4 ho5 hb hg_ hnew_; clear hg_ hnew_; (first | rw [← Ny286.out] at ho5 | (simp only [Int.reduceToNat] at ho5; rw [← Ny286.out] at ho5)); have n0_ := Aside0.mk (Kd.R_lower ho5 (below_size (by repeat (first | (with_reducible first | exact HB.out | apply below_alloc | apply pw_below_drewN | apply below_drew1) | exact HB.out)))); have n1_ := Aside0.mk (below_step (by repeat (first | (with_reducible first | exact HB.out | apply below_alloc | apply pw_below_drewN | apply below_drew1) | exact HB.out)) hb); clear HB; have HO288 := n0_; have HB := n1_; clear n0_ n1_; clear hb ho5))
  go_loopg [7, 8] k (fun kq v7 v8 w' => ∃ (x7_1 : List Int) (x8_1 : Int), v8 = .int .i64 x8_1 ∧ Aside0 (demurralref05_first.l0 kq a0 a1 a2 x7_1 x8_1 = some r) ∧ Aside0 (kq ≤ k) ∧ Aside0 (Kd.R (Kd.int .u32) 83 w' w.heap.size (fun _ => True) v7 x7_1) ∧ Aside0 (Below w.heap.size w w'))
  case atStart => exact ⟨(y286), (0), (by first | rfl | (simp; done) | (simp [*]; done)), H', ⟨Nat.le_refl _⟩, ⟨by (with_reducible repeat (first | apply Kd.R_alloc | apply Kd.R_drewN | apply Kd.R_drew)); exact HO288.out⟩, ⟨by repeat (first | (with_reducible first | exact HB.out | apply below_alloc | apply pw_below_drewN | apply below_drew1) | exact HB.out)⟩⟩
  case round =>
    clear H'
    try clear p2
    obtain ⟨x7_1, x8_1, rfl, HA, HK1, HO_7, HB⟩ := hrel
    cases gk with
    | zero => exact absurd HA.out (by simp [demurralref05_first.l0])
    | succ k1 =>
      have H := HA.out
      clear HA
      simp only [demurralref05_first.l0] at H
      by_cases c6 : x8_1 < 8
      · rw [if_pos c6] at H
        have c6b0 : decide (x8_1 < 8) = true := decide_eq_true c6
        clear c6
        obtain ⟨ji7, hji7⟩ : ∃ j_ : Int, (wrap64 (4 * x8_1)) = j_ := ⟨_, rfl⟩
        replace H : (if 0 ≤ (ji7) then (if (ji7) ≤ (wrap64 ((ji7) + 4)) then (if (wrap64 ((ji7) + 4)) ≤ (a0.size : Int) then ((demurralref05_word.f (a0.extract ((ji7) : Int).toNat ((wrap64 ((ji7) + 4)) : Int).toNat)).bind fun t289 => (if x7_1.length < 35184372088832 then (demurralref05_first.l0 k1 a0 a1 a2 (x7_1 ++ [t289]) (wrap64 (x8_1 + 1))) else (none))) else (none)) else (none)) else (none)) = some r := by first | (rw [hji7] at H; exact H) | (simp only [hji7] at H ⊢; exact H)
        have hji7w : (IntKind.i64.wrap (4 * x8_1)) = ji7 := (i64_w _).trans hji7
        by_cases c8 : 0 ≤ (ji7)
        · rw [if_pos c8] at H
          have c8b0 := eq_true c8
          have c8b1 : decide (0 ≤ (ji7)) = true := decide_eq_true c8
          clear c8
          by_cases c9 : (ji7) ≤ (wrap64 ((ji7) + 4))
          · rw [if_pos c9] at H
            have c9b0 := eq_true c9
            have c9b1 : decide ((ji7) ≤ (wrap64 ((ji7) + 4))) = true := decide_eq_true c9
            by_cases c10 : (wrap64 ((ji7) + 4)) ≤ (a0.size : Int)
            · rw [if_pos c10] at H
              have c10b0 := eq_true c10
              have c10b1 : decide ((wrap64 ((ji7) + 4)) ≤ (a0.size : Int)) = true := decide_eq_true c10
              replace H := Option.bind_eq_some_iff.mp H
              obtain ⟨t289, A110, H⟩ := H
              replace H : (if x7_1.length < 35184372088832 then (demurralref05_first.l0 k1 a0 a1 a2 (x7_1 ++ [t289]) (wrap64 (x8_1 + 1))) else (none)) = some r := H
              have A11 := Aside0.mk A110
              clear A110
              by_cases c12 : x7_1.length < 35184372088832
              · rw [if_pos c12] at H
                have LMc12 := Aside0.mk c12
                clear c12
                obtain ⟨y290, hy290⟩ : ∃ y_ : List Int, y_ = (x7_1 ++ [t289]) := ⟨_, rfl⟩
                replace H : (demurralref05_first.l0 k1 a0 a1 a2 y290 (wrap64 (x8_1 + 1))) = some r := by first | (rw [hy290]; with_reducible exact H) | (have H2_ := (Option.bind_some _ _).symm.trans H; rw [hy290]; with_reducible exact H2_) | (have H2_ := (Option.bind_some _ _).symm.trans H; with_reducible exact H2_) | with_reducible exact H | (rw [hy290]; exact H) | exact H
                have Ny290 := Aside0.mk hy290
                clear hy290
                have H' := Aside0.mk H
                clear H
                go_wp2_with (first | ((with_reducible refine gate_callee (f := 103) rfl ?_); refine goesL_ (some 23) rfl rfl Tryd.func103 (by kernel_rfl) rfl #[.string (a0.extract ((ji7) : Int).toNat ((wrap64 ((ji7) + 4)) : Int).toNat)] rfl (by (try simp only [List.map_toArray, List.map_cons, List.map_nil]); first | done | (simp only [hji7]; rfl) | rfl | (simp only [List.length_drop, List.length_take]; rfl)) ?_; (with_reducible refine (demurralref05_word.calls (a0.extract ((ji7) : Int).toNat ((wrap64 ((ji7) + 4)) : Int).toNat) t289 _ A11.out).mono ?_); rintro e w' ⟨rfl, ⟨nd, rfl⟩⟩; refine ⟨_, rfl, ?_⟩) | ((with_reducible refine gate_builtin (b := .append) (xs := #[.tmp 15, .tmp 24]) rfl ?_); at_builtin; refine Kd.R_append (Kd.int .u32) (w0 := w) w.heap.size rfl (.tmp 15) (.tmp 24) 31 83 (.int .u32 0) 4 rfl Tryd.underlying31 info83 rfl (by decide) (by omega) u7 x7_1 t289 [.int .u32 t289] (fun _ => True) (fun _ => False) rfl rfl ?aP (fun _ hk => hk.elim) ?aF ?aO ?aB ?aS ?aL ?_; (case aP => exact rfl); (case aB => exact (by repeat (first | (with_reducible first | exact HB.out | apply below_alloc | apply pw_below_drewN | apply below_drew1) | exact HB.out))); (case aF => exact (fun _ _ => trivial)); (case aO => exact (by (with_reducible repeat (first | apply Kd.R_alloc | apply Kd.R_drewN | apply Kd.R_drew)); exact HO_7.out)); (case aS => exact (below_size (by repeat (first | (with_reducible first | exact HB.out | apply below_alloc | apply pw_below_drewN | apply below_drew1) | exact HB.out)))); (case aL => have := LMc12.out; omega); intro v291 w13 ho hb hg hat; rw [← Ny290.out] at ho; have n0_ := Aside0.mk (hb); have n1_ := Aside0.mk (ho); clear HB; clear HO_7; have HB := n0_; have HO292 := n1_; clear n0_ n1_; clear ho hb hg hat))
                go_roundg k1
                case measure => have := HK1.out; omega
                case rel => exact ⟨(y290), (wrap64 (x8_1 + 1)), (by first | rfl | (simp; done) | (simp [*]; done)), H', ⟨by have := HK1.out; omega⟩, ⟨by (with_reducible repeat (first | apply Kd.R_alloc | apply Kd.R_drewN | apply Kd.R_drew)); exact HO292.out⟩, ⟨by repeat (first | (with_reducible first | exact HB.out | apply below_alloc | apply pw_below_drewN | apply below_drew1) | exact HB.out)⟩⟩
              · rw [if_neg c12] at H
                exact absurd H (by simp)
            · rw [if_neg c10] at H
              exact absurd H (by simp)
          · rw [if_neg c9] at H
            exact absurd H (by simp)
        · rw [if_neg c8] at H
          exact absurd H (by simp)
      · rw [if_neg c6] at H
        have c6b0 : decide (x8_1 < 8) = false := decide_eq_false c6
        clear c6
        by_cases c14 : x7_1.length < 35184372088832
        · rw [if_pos c14] at H
          have LMc14 := Aside0.mk c14
          clear c14
          obtain ⟨y293, hy293⟩ : ∃ y_ : List Int, y_ = (x7_1 ++ [a1]) := ⟨_, rfl⟩
          replace H : (demurralref05_first.l1 k1 a2 y293 0) = some r := by first | (rw [hy293]; with_reducible exact H) | (have H2_ := (Option.bind_some _ _).symm.trans H; rw [hy293]; with_reducible exact H2_) | (have H2_ := (Option.bind_some _ _).symm.trans H; with_reducible exact H2_) | with_reducible exact H | (rw [hy293]; exact H) | exact H
          have Ny293 := Aside0.mk hy293
          clear hy293
          have H' := Aside0.mk H
          clear H
          go_wp2_with (first | ((with_reducible refine gate_builtin (b := .append) (xs := #[.tmp 26, .tmp 28]) rfl ?_); at_builtin; refine Kd.R_append (Kd.int .u32) (w0 := w) w.heap.size rfl (.tmp 26) (.tmp 28) 31 83 (.int .u32 0) 4 rfl Tryd.underlying31 info83 rfl (by decide) (by omega) u7 x7_1 a1 [.int .u32 a1] (fun _ => True) (fun _ => False) rfl rfl ?aP (fun _ hk => hk.elim) ?aF ?aO ?aB ?aS ?aL ?_; (case aP => exact rfl); (case aB => exact (by repeat (first | (with_reducible first | exact HB.out | apply below_alloc | apply pw_below_drewN | apply below_drew1) | exact HB.out))); (case aF => exact (fun _ _ => trivial)); (case aO => exact (by (with_reducible repeat (first | apply Kd.R_alloc | apply Kd.R_drewN | apply Kd.R_drew)); exact HO_7.out)); (case aS => exact (below_size (by repeat (first | (with_reducible first | exact HB.out | apply below_alloc | apply pw_below_drewN | apply below_drew1) | exact HB.out)))); (case aL => have := LMc14.out; omega); intro v294 w15 ho hb hg hat; rw [← Ny293.out] at ho; have n0_ := Aside0.mk (hb); have n1_ := Aside0.mk (ho); clear HB; clear HO_7; have HB := n0_; have HO295 := n1_; clear n0_ n1_; clear ho hb hg hat))
          go_loopg [7, 9] k1 (fun kq v7 v9 w' => ∃ (x7_2 : List Int) (x9_2 : Int), v9 = .int .i64 x9_2 ∧ Aside0 (demurralref05_first.l1 kq a2 x7_2 x9_2 = some r) ∧ Aside0 (kq ≤ k1) ∧ Aside0 (Kd.R (Kd.int .u32) 83 w' w.heap.size (fun _ => True) v7 x7_2) ∧ Aside0 (Below w.heap.size w w'))
          case atStart => exact ⟨(y293), (0), (by first | rfl | (simp; done) | (simp [*]; done)), H', ⟨Nat.le_refl _⟩, ⟨by (with_reducible repeat (first | apply Kd.R_alloc | apply Kd.R_drewN | apply Kd.R_drew)); exact HO295.out⟩, ⟨by repeat (first | (with_reducible first | exact HB.out | apply below_alloc | apply pw_below_drewN | apply below_drew1) | exact HB.out)⟩⟩
          case round =>
            clear H'
            try clear c1
            try clear p2
            try clear c6
            try clear c6b0
            try clear p6
            try clear c8
            try clear c8b0
            try clear c8b1
            try clear c9
            try clear c9b0
            try clear c9b1
            try clear c10
            try clear c10b0
            try clear c10b1
            try clear c12
            try clear c14
            try clear p2
            obtain ⟨x7_2, x9_2, rfl, HA, HK2, HO_7, HB⟩ := hrel
            cases gk with
            | zero => exact absurd HA.out (by simp [demurralref05_first.l1])
            | succ k2 =>
              have H := HA.out
              clear HA
              simp only [demurralref05_first.l1] at H
              by_cases c16 : x9_2 < 3
              · rw [if_pos c16] at H
                have c16b0 : decide (x9_2 < 3) = true := decide_eq_true c16
                clear c16
                obtain ⟨ji17, hji17⟩ : ∃ j_ : Int, (wrap64 (4 * x9_2)) = j_ := ⟨_, rfl⟩
                replace H : (if 0 ≤ (ji17) then (if (ji17) ≤ (wrap64 ((ji17) + 4)) then (if (wrap64 ((ji17) + 4)) ≤ (a2.size : Int) then ((demurralref05_word.f (a2.extract ((ji17) : Int).toNat ((wrap64 ((ji17) + 4)) : Int).toNat)).bind fun t296 => (if x7_2.length < 35184372088832 then (demurralref05_first.l1 k2 a2 (x7_2 ++ [t296]) (wrap64 (x9_2 + 1))) else (none))) else (none)) else (none)) else (none)) = some r := by first | (rw [hji17] at H; exact H) | (simp only [hji17] at H ⊢; exact H)
                have hji17w : (IntKind.i64.wrap (4 * x9_2)) = ji17 := (i64_w _).trans hji17
                by_cases c18 : 0 ≤ (ji17)
                · rw [if_pos c18] at H
                  have c18b0 := eq_true c18
                  have c18b1 : decide (0 ≤ (ji17)) = true := decide_eq_true c18
                  clear c18
                  by_cases c19 : (ji17) ≤ (wrap64 ((ji17) + 4))
                  · rw [if_pos c19] at H
                    have c19b0 := eq_true c19
                    have c19b1 : decide ((ji17) ≤ (wrap64 ((ji17) + 4))) = true := decide_eq_true c19
                    by_cases c20 : (wrap64 ((ji17) + 4)) ≤ (a2.size : Int)
                    · rw [if_pos c20] at H
                      have c20b0 := eq_true c20
                      have c20b1 : decide ((wrap64 ((ji17) + 4)) ≤ (a2.size : Int)) = true := decide_eq_true c20
                      replace H := Option.bind_eq_some_iff.mp H
                      obtain ⟨t296, A210, H⟩ := H
                      replace H : (if x7_2.length < 35184372088832 then (demurralref05_first.l1 k2 a2 (x7_2 ++ [t296]) (wrap64 (x9_2 + 1))) else (none)) = some r := H
                      have A21 := Aside0.mk A210
                      clear A210
                      by_cases c22 : x7_2.length < 35184372088832
                      · rw [if_pos c22] at H
                        have LMc22 := Aside0.mk c22
                        clear c22
                        obtain ⟨y297, hy297⟩ : ∃ y_ : List Int, y_ = (x7_2 ++ [t296]) := ⟨_, rfl⟩
                        replace H : (demurralref05_first.l1 k2 a2 y297 (wrap64 (x9_2 + 1))) = some r := by first | (rw [hy297]; with_reducible exact H) | (have H2_ := (Option.bind_some _ _).symm.trans H; rw [hy297]; with_reducible exact H2_) | (have H2_ := (Option.bind_some _ _).symm.trans H; with_reducible exact H2_) | with_reducible exact H | (rw [hy297]; exact H) | exact H
                        have Ny297 := Aside0.mk hy297
                        clear hy297
                        have H' := Aside0.mk H
                        clear H
                        go_wp2_with (first | ((with_reducible refine gate_callee (f := 103) rfl ?_); refine goesL_ (some 42) rfl rfl Tryd.func103 (by kernel_rfl) rfl #[.string (a2.extract ((ji17) : Int).toNat ((wrap64 ((ji17) + 4)) : Int).toNat)] rfl (by (try simp only [List.map_toArray, List.map_cons, List.map_nil]); first | done | (simp only [hji17]; rfl) | rfl | (simp only [List.length_drop, List.length_take]; rfl)) ?_; (with_reducible refine (demurralref05_word.calls (a2.extract ((ji17) : Int).toNat ((wrap64 ((ji17) + 4)) : Int).toNat) t296 _ A21.out).mono ?_); rintro e w' ⟨rfl, ⟨nd, rfl⟩⟩; refine ⟨_, rfl, ?_⟩) | ((with_reducible refine gate_builtin (b := .append) (xs := #[.tmp 34, .tmp 43]) rfl ?_); at_builtin; refine Kd.R_append (Kd.int .u32) (w0 := w) w.heap.size rfl (.tmp 34) (.tmp 43) 31 83 (.int .u32 0) 4 rfl Tryd.underlying31 info83 rfl (by decide) (by omega) u7 x7_2 t296 [.int .u32 t296] (fun _ => True) (fun _ => False) rfl rfl ?aP (fun _ hk => hk.elim) ?aF ?aO ?aB ?aS ?aL ?_; (case aP => exact rfl); (case aB => exact (by repeat (first | (with_reducible first | exact HB.out | apply below_alloc | apply pw_below_drewN | apply below_drew1) | exact HB.out))); (case aF => exact (fun _ _ => trivial)); (case aO => exact (by (with_reducible repeat (first | apply Kd.R_alloc | apply Kd.R_drewN | apply Kd.R_drew)); exact HO_7.out)); (case aS => exact (below_size (by repeat (first | (with_reducible first | exact HB.out | apply below_alloc | apply pw_below_drewN | apply below_drew1) | exact HB.out)))); (case aL => have := LMc22.out; omega); intro v298 w23 ho hb hg hat; rw [← Ny297.out] at ho; have n0_ := Aside0.mk (hb); have n1_ := Aside0.mk (ho); clear HB; clear HO_7; have HB := n0_; have HO299 := n1_; clear n0_ n1_; clear ho hb hg hat))
                        go_roundg k2
                        case measure => have := HK1.out; have := HK2.out; omega
                        case rel => exact ⟨(y297), (wrap64 (x9_2 + 1)), (by first | rfl | (simp; done) | (simp [*]; done)), H', ⟨by have := HK1.out; have := HK2.out; omega⟩, ⟨by (with_reducible repeat (first | apply Kd.R_alloc | apply Kd.R_drewN | apply Kd.R_drew)); exact HO299.out⟩, ⟨by repeat (first | (with_reducible first | exact HB.out | apply below_alloc | apply pw_below_drewN | apply below_drew1) | exact HB.out)⟩⟩
                      · rw [if_neg c22] at H
                        exact absurd H (by simp)
                    · rw [if_neg c20] at H
                      exact absurd H (by simp)
                  · rw [if_neg c19] at H
                    exact absurd H (by simp)
                · rw [if_neg c18] at H
                  exact absurd H (by simp)
              · rw [if_neg c16] at H
                have c16b0 : decide (x9_2 < 3) = false := decide_eq_false c16
                clear c16
                obtain rfl := Option.some.inj H
                go_wp2
                go_ret
                exact ⟨_, by first | rfl | (simp [errW_none, errW_some] <;> rfl) | (simp [*, errW_none, errW_some] <;> rfl), by (with_reducible repeat (first | apply Kd.R_alloc | apply Kd.R_drewN | apply Kd.R_drew)); exact HO_7.out, by repeat (first | (with_reducible first | exact HB.out | apply below_alloc | apply pw_below_drewN | apply below_drew1) | exact HB.out)⟩
        · rw [if_neg c14] at H
          exact absurd H (by simp)

end Go.Proofs.YtpbaolijacimjaaDoor.PLockTells

namespace Go.Proofs.YtpbaolijacimjaaDoor.PLockTells
open Go.RowKit Go.Proofs.YtpbaolijacimjaaDoorW.PrintWords Go.Proofs.YtpbaolijacimjaaDoorW.PrintLast Go.Proofs.YtpbaolijacimjaaDoorW.PrintMore
attribute [local go_sem] max2_int min2_int max_two min_two max_three min_three max_four min_four   -- for this text's walks alone
set_option linter.unusedVariables false
set_option linter.unusedSimpArgs false

/-! ### demurralref05_Block: function 58 -/
mutual
def demurralref05_Block.l0 : Nat → ByteArray → Int → ByteArray → List Int → Int → Option (ByteArray)
  | 0, _, _, _, _, _ => none
  | k + 1, x0, x1, x2, x7, x8 => if x8 < 10 then ((demurralref05_mix.f x7 0 4 8 12).bind fun t328 => ((demurralref05_mix.f t328 1 5 9 13).bind fun t331 => ((demurralref05_mix.f t331 2 6 10 14).bind fun t334 => ((demurralref05_mix.f t334 3 7 11 15).bind fun t337 => ((demurralref05_mix.f t337 0 5 10 15).bind fun t340 => ((demurralref05_mix.f t340 1 6 11 12).bind fun t343 => ((demurralref05_mix.f t343 2 7 8 13).bind fun t346 => ((demurralref05_mix.f t346 3 4 9 14).bind fun t349 => (demurralref05_Block.l0 k x0 x1 x2 t349 (wrap64 (x8 + 1))))))))))) else ((demurralref05_first.f k x0 x1 x2).bind fun t355 => (demurralref05_Block.l1 k x7 (([] : List Int)) t355 (t355.length : Int) 0))
def demurralref05_Block.l1 : Nat → List Int → List Int → List Int → Int → Int → Option (ByteArray)
  | 0, _, _, _, _, _ => none
  | k + 1, x7, x9, x35, x36, x37 => if x37 < x36 then (if 0 ≤ x37 then (if x37 < (x35.length : Int) then (if x37 < (x7.length : Int) then ((some (([((rd x35 x37) + (rd x7 x37)) % 256, ((((rd x35 x37) + (rd x7 x37)) % 4294967296) / 256) % 256, ((((rd x35 x37) + (rd x7 x37)) % 4294967296) / 65536) % 256, ((((rd x35 x37) + (rd x7 x37)) % 4294967296) / 16777216)] : List Int) : List Int)).bind fun y360 => (if x9.length + y360.length < 140737488355328 then (demurralref05_Block.l1 k x7 (x9 ++ y360) x35 x36 (wrap64 (x37 + 1))) else (none))) else (none)) else (none)) else (none)) else (some (strOfNums x9))
end
def demurralref05_Block.f (k : Nat) (a0 : ByteArray) (a1 : Int) (a2 : ByteArray) : Option (ByteArray) := (demurralref05_first.f k a0 a1 a2).bind fun t325 => (demurralref05_Block.l0 k a0 a1 a2 t325 0)
theorem demurralref05_Block.mono_l : ∀ k, (∀ y0 y1 y2 y3 y4, LeO (demurralref05_Block.l0 k y0 y1 y2 y3 y4) (demurralref05_Block.l0 (k + 1) y0 y1 y2 y3 y4)) ∧ (∀ y0 y1 y2 y3 y4, LeO (demurralref05_Block.l1 k y0 y1 y2 y3 y4) (demurralref05_Block.l1 (k + 1) y0 y1 y2 y3 y4))
  | 0 => ⟨fun _ _ _ _ _ r h => by simp [demurralref05_Block.l0] at h, fun _ _ _ _ _ r h => by simp [demurralref05_Block.l1] at h⟩
  | k + 1 => by
    obtain ⟨ih0, ih1⟩ := demurralref05_Block.mono_l k
    refine ⟨?_, ?_⟩
    · intro y0 y1 y2 y3 y4
      unfold demurralref05_Block.l0
      repeat' first
      | (with_reducible exact ih0 _ _ _ _ _)
      | (with_reducible exact ih1 _ _ _ _ _)
      | (with_reducible exact demurralref05_first.mono _ _ _ _)
      | (with_reducible exact LeO.refl _)
      | (with_reducible exact LeO.none _)
      | (with_reducible refine LeO.ite ?_ ?_)
      | (with_reducible refine LeO.bind ?_ (fun _ => ?_))
      | exact ih0 _ _ _ _ _
      | exact ih1 _ _ _ _ _
      | exact demurralref05_first.mono _ _ _ _
      | exact LeO.none _
      | refine LeO.ite ?_ ?_
      | refine LeO.bind ?_ (fun _ => ?_)
    · intro y0 y1 y2 y3 y4
      unfold demurralref05_Block.l1
      repeat' first
      | (with_reducible exact ih0 _ _ _ _ _)
      | (with_reducible exact ih1 _ _ _ _ _)
      | (with_reducible exact demurralref05_first.mono _ _ _ _)
      | (with_reducible exact LeO.refl _)
      | (with_reducible exact LeO.none _)
      | (with_reducible refine LeO.ite ?_ ?_)
      | (with_reducible refine LeO.bind ?_ (fun _ => ?_))
      | exact ih0 _ _ _ _ _
      | exact ih1 _ _ _ _ _
      | exact demurralref05_first.mono _ _ _ _
      | exact LeO.none _
      | refine LeO.ite ?_ ?_
      | refine LeO.bind ?_ (fun _ => ?_)
theorem demurralref05_Block.mono : ∀ a0 a1 a2 k, LeO (demurralref05_Block.f k a0 a1 a2) (demurralref05_Block.f (k + 1) a0 a1 a2) := by
  intro a0 a1 a2 k
  obtain ⟨ih0, ih1⟩ := demurralref05_Block.mono_l k
  unfold demurralref05_Block.f
  repeat' first
      | (with_reducible exact ih0 _ _ _ _ _)
      | (with_reducible exact ih1 _ _ _ _ _)
      | (with_reducible exact demurralref05_first.mono _ _ _ _)
      | (with_reducible exact LeO.refl _)
      | (with_reducible exact LeO.none _)
      | (with_reducible refine LeO.ite ?_ ?_)
      | (with_reducible refine LeO.bind ?_ (fun _ => ?_))
      | exact ih0 _ _ _ _ _
      | exact ih1 _ _ _ _ _
      | exact demurralref05_first.mono _ _ _ _
      | exact LeO.none _
      | refine LeO.ite ?_ ?_
      | refine LeO.bind ?_ (fun _ => ?_)
set_option maxHeartbeats 8000000 in
set_option maxRecDepth 100000 in
theorem demurralref05_Block.calls (k : Nat) (a0 : ByteArray) (a1 : Int) (a2 : ByteArray) (r : ByteArray) (w : World) (h : demurralref05_Block.f k a0 a1 a2 = some r) :
    Calls Tryd.prog 58 #[.string a0, .int .u32 a1, .string a2] w fun e w' => e = .returned (.string r) ∧ Below w.heap.size w w' := by
  have HB := Aside0.mk (Below.refl w.heap.size w)
  have H : ((demurralref05_first.f k a0 a1 a2).bind fun t325 => (demurralref05_Block.l0 k a0 a1 a2 t325 0)) = some r := h
  clear h
  replace H := Option.bind_eq_some_iff.mp H
  obtain ⟨t325, A40, H⟩ := H
  replace H : (demurralref05_Block.l0 k a0 a1 a2 t325 0) = some r := H
  have A4 := Aside0.mk A40
  clear A40
  have H' := Aside0.mk H
  clear H
  go_enter Tryd.func58, Tryd.ntmps58
  go_wp2_with (first | ((with_reducible refine gate_callee (f := 84) rfl ?_); refine goesL_ (some 16) rfl rfl Tryd.func84 (by kernel_rfl) rfl #[.string a0, .int .u32 a1, .string a2] rfl (by (try simp only [List.map_toArray, List.map_cons, List.map_nil]); first | done | rfl | (simp only [List.length_drop, List.length_take]; rfl)) ?_; (with_reducible refine (demurralref05_first.calls k a0 a1 a2 t325 _ A4.out).mono ?_); rintro e w5 ⟨v326, rfl, ho0, hb⟩; refine ⟨_, rfl, ?_⟩; have n0_ := Aside0.mk (Kd.R_lower ho0 (below_size (by repeat (first | (with_reducible first | exact HB.out | apply below_alloc | apply pw_below_drewN | apply below_drew1) | exact HB.out)))); have n1_ := Aside0.mk (below_step (by repeat (first | (with_reducible first | exact HB.out | apply below_alloc | apply pw_below_drewN | apply below_drew1) | exact HB.out)) hb); clear HB; have HO327 := n0_; have HB := n1_; clear n0_ n1_; (try clear hb); (try clear hb2); (try clear hk); (try clear hi); (try clear ho0)))
  go_loopg [7, 8] k (fun kq v7 v8 w' => ∃ (x7_1 : List Int) (x8_1 : Int), v8 = .int .i64 x8_1 ∧ Aside0 (demurralref05_Block.l0 kq a0 a1 a2 x7_1 x8_1 = some r) ∧ Aside0 (kq ≤ k) ∧ Aside0 (Kd.R (Kd.int .u32) 83 w' w.heap.size (fun _ => True) v7 x7_1) ∧ Aside0 (Below w.heap.size w w'))
  case atStart => exact ⟨(t325), (0), (by first | rfl | (simp; done) | (simp [*]; done)), H', ⟨Nat.le_refl _⟩, ⟨by (with_reducible repeat (first | apply Kd.R_alloc | apply Kd.R_drewN | apply Kd.R_drew)); exact HO327.out⟩, ⟨by repeat (first | (with_reducible first | exact HB.out | apply below_alloc | apply pw_below_drewN | apply below_drew1) | exact HB.out)⟩⟩
  case round =>
    clear H'
    try clear p2
    try clear c5
    obtain ⟨x7_1, x8_1, rfl, HA, HK1, HO_7, HB⟩ := hrel
    cases gk with
    | zero => exact absurd HA.out (by simp [demurralref05_Block.l0])
    | succ k1 =>
      have H := HA.out
      clear HA
      simp only [demurralref05_Block.l0] at H
      by_cases c6 : x8_1 < 10
      · rw [if_pos c6] at H
        have c6b0 : decide (x8_1 < 10) = true := decide_eq_true c6
        clear c6
        replace H := Option.bind_eq_some_iff.mp H
        obtain ⟨t328, A70, H⟩ := H
        replace H : ((demurralref05_mix.f t328 1 5 9 13).bind fun t331 => ((demurralref05_mix.f t331 2 6 10 14).bind fun t334 => ((demurralref05_mix.f t334 3 7 11 15).bind fun t337 => ((demurralref05_mix.f t337 0 5 10 15).bind fun t340 => ((demurralref05_mix.f t340 1 6 11 12).bind fun t343 => ((demurralref05_mix.f t343 2 7 8 13).bind fun t346 => ((demurralref05_mix.f t346 3 4 9 14).bind fun t349 => (demurralref05_Block.l0 k1 a0 a1 a2 t349 (wrap64 (x8_1 + 1)))))))))) = some r := H
        have A7 := Aside0.mk A70
        clear A70
        replace H := Option.bind_eq_some_iff.mp H
        obtain ⟨t331, A80, H⟩ := H
        replace H : ((demurralref05_mix.f t331 2 6 10 14).bind fun t334 => ((demurralref05_mix.f t334 3 7 11 15).bind fun t337 => ((demurralref05_mix.f t337 0 5 10 15).bind fun t340 => ((demurralref05_mix.f t340 1 6 11 12).bind fun t343 => ((demurralref05_mix.f t343 2 7 8 13).bind fun t346 => ((demurralref05_mix.f t346 3 4 9 14).bind fun t349 => (demurralref05_Block.l0 k1 a0 a1 a2 t349 (wrap64 (x8_1 + 1))))))))) = some r := H
        have A8 := Aside0.mk A80
        clear A80
        replace H := Option.bind_eq_some_iff.mp H
        obtain ⟨t334, A90, H⟩ := H
        replace H : ((demurralref05_mix.f t334 3 7 11 15).bind fun t337 => ((demurralref05_mix.f t337 0 5 10 15).bind fun t340 => ((demurralref05_mix.f t340 1 6 11 12).bind fun t343 => ((demurralref05_mix.f t343 2 7 8 13).bind fun t346 => ((demurralref05_mix.f t346 3 4 9 14).bind fun t349 => (demurralref05_Block.l0 k1 a0 a1 a2 t349 (wrap64 (x8_1 + 1)))))))) = some r := H
        have A9 := Aside0.mk A90
        clear A90
        replace H := Option.bind_eq_some_iff.mp H
        obtain ⟨t337, A100, H⟩ := H
        replace H : ((demurralref05_mix.f t337 0 5 10 15).bind fun t340 => ((demurralref05_mix.f t340 1 6 11 12).bind fun t343 => ((demurralref05_mix.f t343 2 7 8 13).bind fun t346 => ((demurralref05_mix.f t346 3 4 9 14).bind fun t349 => (demurralref05_Block.l0 k1 a0 a1 a2 t349 (wrap64 (x8_1 + 1))))))) = some r := H
        have A10 := Aside0.mk A100
        clear A100
        replace H := Option.bind_eq_some_iff.mp H
        obtain ⟨t340, A110, H⟩ := H
        replace H : ((demurralref05_mix.f t340 1 6 11 12).bind fun t343 => ((demurralref05_mix.f t343 2 7 8 13).bind fun t346 => ((demurralref05_mix.f t346 3 4 9 14).bind fun t349 => (demurralref05_Block.l0 k1 a0 a1 a2 t349 (wrap64 (x8_1 + 1)))))) = some r := H
        have A11 := Aside0.mk A110
        clear A110
        replace H := Option.bind_eq_some_iff.mp H
        obtain ⟨t343, A120, H⟩ := H
        replace H : ((demurralref05_mix.f t343 2 7 8 13).bind fun t346 => ((demurralref05_mix.f t346 3 4 9 14).bind fun t349 => (demurralref05_Block.l0 k1 a0 a1 a2 t349 (wrap64 (x8_1 + 1))))) = some r := H
        have A12 := Aside0.mk A120
        clear A120
        replace H := Option.bind_eq_some_iff.mp H
        obtain ⟨t346, A130, H⟩ := H
        replace H : ((demurralref05_mix.f t346 3 4 9 14).bind fun t349 => (demurralref05_Block.l0 k1 a0 a1 a2 t349 (wrap64 (x8_1 + 1)))) = some r := H
        have A13 := Aside0.mk A130
        clear A130
        replace H := Option.bind_eq_some_iff.mp H
        obtain ⟨t349, A140, H⟩ := H
        replace H : (demurralref05_Block.l0 k1 a0 a1 a2 t349 (wrap64 (x8_1 + 1))) = some r := H
        have A14 := Aside0.mk A140
        clear A140
        have H' := Aside0.mk H
        clear H
        obtain ⟨Ao15, co15, eo15⟩ := Kd.R_slice HO_7.out
        subst eo15
        go_wp2_with (first | ((with_reducible refine gate_callee (f := 85) rfl ?_); refine goesL_ (some 22) rfl rfl Tryd.func85 (by kernel_rfl) rfl #[.slice Ao15 x7_1.length co15, .int .i64 0, .int .i64 4, .int .i64 8, .int .i64 12] rfl (by (try simp only [List.map_toArray, List.map_cons, List.map_nil]); first | done | rfl | (simp only [List.length_drop, List.length_take]; rfl)) ?_; (with_reducible refine (demurralref05_mix.calls _ _ x7_1 0 4 8 12 t328 _ ?side1 ?side2 A7.out).mono ?_); (case side1 => repeat (first | exact (Kd.R_reads' HO_7.out).2.2 | (with_reducible refine Kd.C_alloc ?_ _) | (with_reducible refine Kd.C_drewN ?_ _) | (with_reducible refine Kd.C_drew ?_))); (case side2 => exact (Kd.R_reads' HO_7.out).2.1); rintro e w16 ⟨v329, rfl, ho0, hb⟩; refine ⟨_, rfl, ?_⟩; have n0_ := Aside0.mk (Kd.R_elder' (by (with_reducible repeat (first | apply Kd.R_alloc | apply Kd.R_drewN | apply Kd.R_drew)); exact HO_7.out) (Kd.R_base ho0) hb); have n1_ := Aside0.mk (Kd.R_lower (Kd.R_new' ho0 (Kd.R_lt (by (with_reducible repeat (first | apply Kd.R_alloc | apply Kd.R_drewN | apply Kd.R_drew)); exact HO_7.out))) (below_size (by repeat (first | (with_reducible first | exact HB.out | apply below_alloc | apply pw_below_drewN | apply below_drew1) | exact HB.out)))); have n2_ := Aside0.mk (below_step (by repeat (first | (with_reducible first | exact HB.out | apply below_alloc | apply pw_below_drewN | apply below_drew1) | exact HB.out)) hb); clear HO_7; clear HB; have HO_7 := n0_; have HO330 := n1_; have HB := n2_; clear n0_ n1_ n2_; (try clear hb); (try clear hb2); (try clear hk); (try clear hi); (try clear ho0); obtain ⟨Ao17, co17, eo17⟩ := Kd.R_slice HO330.out; subst eo17) | ((with_reducible refine gate_callee (f := 85) rfl ?_); refine goesL_ (some 23) rfl rfl Tryd.func85 (by kernel_rfl) rfl #[.slice Ao17 t328.length co17, .int .i64 1, .int .i64 5, .int .i64 9, .int .i64 13] rfl (by (try simp only [List.map_toArray, List.map_cons, List.map_nil]); first | done | rfl | (simp only [List.length_drop, List.length_take]; rfl)) ?_; (with_reducible refine (demurralref05_mix.calls _ _ t328 1 5 9 13 t331 _ ?side1 ?side2 A8.out).mono ?_); (case side1 => repeat (first | exact (Kd.R_reads' HO330.out).2.2 | (with_reducible refine Kd.C_alloc ?_ _) | (with_reducible refine Kd.C_drewN ?_ _) | (with_reducible refine Kd.C_drew ?_))); (case side2 => exact (Kd.R_reads' HO330.out).2.1); rintro e w18 ⟨v332, rfl, ho0, hb⟩; refine ⟨_, rfl, ?_⟩; have n0_ := Aside0.mk (Kd.R_elder' (by (with_reducible repeat (first | apply Kd.R_alloc | apply Kd.R_drewN | apply Kd.R_drew)); exact HO_7.out) (Kd.R_base ho0) hb); have n1_ := Aside0.mk (Kd.R_elder' (by (with_reducible repeat (first | apply Kd.R_alloc | apply Kd.R_drewN | apply Kd.R_drew)); exact HO330.out) (Kd.R_base ho0) hb); have n2_ := Aside0.mk (Kd.R_lower (Kd.R_new' (Kd.R_new' ho0 (Kd.R_lt (by (with_reducible repeat (first | apply Kd.R_alloc | apply Kd.R_drewN | apply Kd.R_drew)); exact HO_7.out))) (Kd.R_lt (by (with_reducible repeat (first | apply Kd.R_alloc | apply Kd.R_drewN | apply Kd.R_drew)); exact HO330.out))) (below_size (by repeat (first | (with_reducible first | exact HB.out | apply below_alloc | apply pw_below_drewN | apply below_drew1) | exact HB.out)))); have n3_ := Aside0.mk (below_step (by repeat (first | (with_reducible first | exact HB.out | apply below_alloc | apply pw_below_drewN | apply below_drew1) | exact HB.out)) hb); clear HO_7; clear HO330; clear HB; have HO_7 := n0_; have HO330 := n1_; have HO333 := n2_; have HB := n3_; clear n0_ n1_ n2_ n3_; (try clear hb); (try clear hb2); (try clear hk); (try clear hi); (try clear ho0); obtain ⟨Ao19, co19, eo19⟩ := Kd.R_slice HO333.out; subst eo19) | ((with_reducible refine gate_callee (f := 85) rfl ?_); refine goesL_ (some 24) rfl rfl Tryd.func85 (by kernel_rfl) rfl #[.slice Ao19 t331.length co19, .int .i64 2, .int .i64 6, .int .i64 10, .int .i64 14] rfl (by (try simp only [List.map_toArray, List.map_cons, List.map_nil]); first | done | rfl | (simp only [List.length_drop, List.length_take]; rfl)) ?_; (with_reducible refine (demurralref05_mix.calls _ _ t331 2 6 10 14 t334 _ ?side1 ?side2 A9.out).mono ?_); (case side1 => repeat (first | exact (Kd.R_reads' HO333.out).2.2 | (with_reducible refine Kd.C_alloc ?_ _) | (with_reducible refine Kd.C_drewN ?_ _) | (with_reducible refine Kd.C_drew ?_))); (case side2 => exact (Kd.R_reads' HO333.out).2.1); rintro e w20 ⟨v335, rfl, ho0, hb⟩; refine ⟨_, rfl, ?_⟩; have n0_ := Aside0.mk (Kd.R_elder' (by (with_reducible repeat (first | apply Kd.R_alloc | apply Kd.R_drewN | apply Kd.R_drew)); exact HO_7.out) (Kd.R_base ho0) hb); have n1_ := Aside0.mk (Kd.R_elder' (by (with_reducible repeat (first | apply Kd.R_alloc | apply Kd.R_drewN | apply Kd.R_drew)); exact HO330.out) (Kd.R_base ho0) hb); have n2_ := Aside0.mk (Kd.R_elder' (by (with_reducible repeat (first | apply Kd.R_alloc | apply Kd.R_drewN | apply Kd.R_drew)); exact HO333.out) (Kd.R_base ho0) hb); have n3_ := Aside0.mk (Kd.R_lower (Kd.R_new' (Kd.R_new' (Kd.R_new' ho0 (Kd.R_lt (by (with_reducible repeat (first | apply Kd.R_alloc | apply Kd.R_drewN | apply Kd.R_drew)); exact HO_7.out))) (Kd.R_lt (by (with_reducible repeat (first | apply Kd.R_alloc | apply Kd.R_drewN | apply Kd.R_drew)); exact HO330.out))) (Kd.R_lt (by (with_reducible repeat (first | apply Kd.R_alloc | apply Kd.R_drewN | apply Kd.R_drew)); exact HO333.out))) (below_size (by repeat (first | (with_reducible first | exact HB.out | apply below_alloc | apply pw_below_drewN | apply below_drew1) | exact HB.out)))); have n4_ := Aside0.mk (below_step (by repeat (first | (with_reducible first | exact HB.out | apply below_alloc | apply pw_below_drewN | apply below_drew1) | exact HB.out)) hb); clear HO_7; clear HO330; clear HO333; clear HB; have HO_7 := n0_; have HO330 := n1_; have HO333 := n2_; have HO336 := n3_; have HB := n4_; clear n0_ n1_ n2_ n3_ n4_; (try clear hb); (try clear hb2); (try clear hk); (try clear hi); (try clear ho0); obtain ⟨Ao21, co21, eo21⟩ := Kd.R_slice HO336.out; subst eo21) | ((with_reducible refine gate_callee (f := 85) rfl ?_); refine goesL_ (some 25) rfl rfl Tryd.func85 (by kernel_rfl) rfl #[.slice Ao21 t334.length co21, .int .i64 3, .int .i64 7, .int .i64 11, .int .i64 15] rfl (by (try simp only [List.map_toArray, List.map_cons, List.map_nil]); first | done | rfl | (simp only [List.length_drop, List.length_take]; rfl)) ?_; (with_reducible refine (demurralref05_mix.calls _ _ t334 3 7 11 15 t337 _ ?side1 ?side2 A10.out).mono ?_); (case side1 => repeat (first | exact (Kd.R_reads' HO336.out).2.2 | (with_reducible refine Kd.C_alloc ?_ _) | (with_reducible refine Kd.C_drewN ?_ _) | (with_reducible refine Kd.C_drew ?_))); (case side2 => exact (Kd.R_reads' HO336.out).2.1); rintro e w22 ⟨v338, rfl, ho0, hb⟩; refine ⟨_, rfl, ?_⟩; have n0_ := Aside0.mk (Kd.R_elder' (by (with_reducible repeat (first | apply Kd.R_alloc | apply Kd.R_drewN | apply Kd.R_drew)); exact HO_7.out) (Kd.R_base ho0) hb); have n1_ := Aside0.mk (Kd.R_elder' (by (with_reducible repeat (first | apply Kd.R_alloc | apply Kd.R_drewN | apply Kd.R_drew)); exact HO330.out) (Kd.R_base ho0) hb); have n2_ := Aside0.mk (Kd.R_elder' (by (with_reducible repeat (first | apply Kd.R_alloc | apply Kd.R_drewN | apply Kd.R_drew)); exact HO333.out) (Kd.R_base ho0) hb); have n3_ := Aside0.mk (Kd.R_elder' (by (with_reducible repeat (first | apply Kd.R_alloc | apply Kd.R_drewN | apply Kd.R_drew)); exact HO336.out) (Kd.R_base ho0) hb); have n4_ := Aside0.mk (Kd.R_lower (Kd.R_new' (Kd.R_new' (Kd.R_new' (Kd.R_new' ho0 (Kd.R_lt (by (with_reducible repeat (first | apply Kd.R_alloc | apply Kd.R_drewN | apply Kd.R_drew)); exact HO_7.out))) (Kd.R_lt (by (with_reducible repeat (first | apply Kd.R_alloc | apply Kd.R_drewN | apply Kd.R_drew)); exact HO330.out))) (Kd.R_lt (by (with_reducible repeat (first | apply Kd.R_alloc | apply Kd.R_drewN | apply Kd.R_drew)); exact HO333.out))) (Kd.R_lt (by (with_reducible repeat (first | apply Kd.R_alloc | apply Kd.R_drewN | apply Kd.R_drew)); exact HO336.out))) (below_size (by repeat (first | (with_reducible first | exact HB.out | apply below_alloc | apply pw_below_drewN | apply below_drew1) | exact HB.out)))); have n5_ := Aside0.mk (below_step (by repeat (first | (with_reducible first | exact HB.out | apply below_alloc | apply pw_below_drewN | apply below_drew1) | exact HB.out)) hb); clear HO_7; clear HO330; clear HO333; clear HO336; clear HB; have HO_7 := n0_; have HO330 := n1_; have HO333 := n2_; have HO336 := n3_; have HO339 := n4_; have HB := n5_; clear n0_ n1_ n2_ n3_ n4_ n5_; (try clear hb); (try clear hb2); (try clear hk); (try clear hi); (try clear ho0); obtain ⟨Ao23, co23, eo23⟩ := Kd.R_slice HO339.out; subst eo23) | ((with_reducible refine gate_callee (f := 85) rfl ?_); refine goesL_ (some 27) rfl rfl Tryd.func85 (by kernel_rfl) rfl #[.slice Ao23 t337.length co23, .int .i64 0, .int .i64 5, .int .i64 10, .int .i64 15] rfl (by (try simp only [List.map_toArray, List.map_cons, List.map_nil]); first | done | rfl | (simp only [List.length_drop, List.length_take]; rfl)) ?_; (with_reducible refine (demurralref05_mix.calls _ _ t337 0 5 10 15 t340 _ ?side1 ?side2 A11.out).mono ?_); (case side1 => repeat (first | exact (Kd.R_reads' HO339.out).2.2 | (with_reducible refine Kd.C_alloc ?_ _) | (with_reducible refine Kd.C_drewN ?_ _) | (with_reducible refine Kd.C_drew ?_))); (case side2 => exact (Kd.R_reads' HO339.out).2.1); rintro e w24 ⟨v341, rfl, ho0, hb⟩; refine ⟨_, rfl, ?_⟩; have n0_ := Aside0.mk (Kd.R_elder' (by (with_reducible repeat (first | apply Kd.R_alloc | apply Kd.R_drewN | apply Kd.R_drew)); exact HO_7.out) (Kd.R_base ho0) hb); have n1_ := Aside0.mk (Kd.R_elder' (by (with_reducible repeat (first | apply Kd.R_alloc | apply Kd.R_drewN | apply Kd.R_drew)); exact HO330.out) (Kd.R_base ho0) hb); have n2_ := Aside0.mk (Kd.R_elder' (by (with_reducible repeat (first | apply Kd.R_alloc | apply Kd.R_drewN | apply Kd.R_drew)); exact HO333.out) (Kd.R_base ho0) hb); have n3_ := Aside0.mk (Kd.R_elder' (by (with_reducible repeat (first | apply Kd.R_alloc | apply Kd.R_drewN | apply Kd.R_drew)); exact HO336.out) (Kd.R_base ho0) hb); have n4_ := Aside0.mk (Kd.R_elder' (by (with_reducible repeat (first | apply Kd.R_alloc | apply Kd.R_drewN | apply Kd.R_drew)); exact HO339.out) (Kd.R_base ho0) hb); have n5_ := Aside0.mk (Kd.R_lower (Kd.R_new' (Kd.R_new' (Kd.R_new' (Kd.R_new' (Kd.R_new' ho0 (Kd.R_lt (by (with_reducible repeat (first | apply Kd.R_alloc | apply Kd.R_drewN | apply Kd.R_drew)); exact HO_7.out))) (Kd.R_lt (by (with_reducible repeat (first | apply Kd.R_alloc | apply Kd.R_drewN | apply Kd.R_drew)); exact HO330.out))) (Kd.R_lt (by (with_reducible repeat (first | apply Kd.R_alloc | apply Kd.R_drewN | apply Kd.R_drew)); exact HO333.out))) (Kd.R_lt (by (with_reducible repeat (first | apply Kd.R_alloc | apply Kd.R_drewN | apply Kd.R_drew)); exact HO336.out))) (Kd.R_lt (by (with_reducible repeat (first | apply Kd.R_alloc | apply Kd.R_drewN | apply Kd.R_drew)); exact HO339.out))) (below_size (by repeat (first | (with_reducible first | exact HB.out | apply below_alloc | apply pw_below_drewN | apply below_drew1) | exact HB.out)))); have n6_ := Aside0.mk (below_step (by repeat (first | (with_reducible first | exact HB.out | apply below_alloc | apply pw_below_drewN | apply below_drew1) | exact HB.out)) hb); clear HO_7; clear HO330; clear HO333; clear HO336; clear HO339; clear HB; have HO_7 := n0_; have HO330 := n1_; have HO333 := n2_; have HO336 := n3_; have HO339 := n4_; have HO342 := n5_; have HB := n6_; clear n0_ n1_ n2_ n3_ n4_ n5_ n6_; (try clear hb); (try clear hb2); (try clear hk); (try clear hi); (try clear ho0); obtain ⟨Ao25, co25, eo25⟩ := Kd.R_slice HO342.out; subst eo25) | ((with_reducible refine gate_callee (f := 85) rfl ?_); refine goesL_ (some 28) rfl rfl Tryd.func85 (by kernel_rfl) rfl #[.slice Ao25 t340.length co25, .int .i64 1, .int .i64 6, .int .i64 11, .int .i64 12] rfl (by (try simp only [List.map_toArray, List.map_cons, List.map_nil]); first | done | rfl | (simp only [List.length_drop, List.length_take]; rfl)) ?_; (with_reducible refine (demurralref05_mix.calls _ _ t340 1 6 11 12 t343 _ ?side1 ?side2 A12.out).mono ?_); (case side1 => repeat (first | exact (Kd.R_reads' HO342.out).2.2 | (with_reducible refine Kd.C_alloc ?_ _) | (with_reducible refine Kd.C_drewN ?_ _) | (with_reducible refine Kd.C_drew ?_))); (case side2 => exact (Kd.R_reads' HO342.out).2.1); rintro e w26 ⟨v344, rfl, ho0, hb⟩; refine ⟨_, rfl, ?_⟩; have n0_ := Aside0.mk (Kd.R_elder' (by (with_reducible repeat (first | apply Kd.R_alloc | apply Kd.R_drewN | apply Kd.R_drew)); exact HO_7.out) (Kd.R_base ho0) hb); have n1_ := Aside0.mk (Kd.R_elder' (by (with_reducible repeat (first | apply Kd.R_alloc | apply Kd.R_drewN | apply Kd.R_drew)); exact HO330.out) (Kd.R_base ho0) hb); have n2_ := Aside0.mk (Kd.R_elder' (by (with_reducible repeat (first | apply Kd.R_alloc | apply Kd.R_drewN | apply Kd.R_drew)); exact HO333.out) (Kd.R_base ho0) hb); have n3_ := Aside0.mk (Kd.R_elder' (by (with_reducible repeat (first | apply Kd.R_alloc | apply Kd.R_drewN | apply Kd.R_drew)); exact HO336.out) (Kd.R_base ho0) hb); have n4_ := Aside0.mk (Kd.R_elder' (by (with_reducible repeat (first | apply Kd.R_alloc | apply Kd.R_drewN | apply Kd.R_drew)); exact HO339.out) (Kd.R_base ho0) hb); have n5_ := Aside0.mk (Kd.R_elder' (by (with_reducible repeat (first | apply Kd.R_alloc | apply Kd.R_drewN | apply Kd.R_drew)); exact HO342.out) (Kd.R_base ho0) hb); have n6_ := Aside0.mk (Kd.R_lower (Kd.R_new' (Kd.R_new' (Kd.R_new' (Kd.R_new' (Kd.R_new' (Kd.R_new' ho0 (Kd.R_lt (by (with_reducible repeat (first | apply Kd.R_alloc | apply Kd.R_drewN | apply Kd.R_drew)); exact HO_7.out))) (Kd.R_lt (by (with_reducible repeat (first | apply Kd.R_alloc | apply Kd.R_drewN | apply Kd.R_drew)); exact HO330.out))) (Kd.R_lt (by (with_reducible repeat (first | apply Kd.R_alloc | apply Kd.R_drewN | apply Kd.R_drew)); exact HO333.out))) (Kd.R_lt (by (with_reducible repeat (first | apply Kd.R_alloc | apply Kd.R_drewN | apply Kd.R_drew)); exact HO336.out))) (Kd.R_lt (by (with_reducible repeat (first | apply Kd.R_alloc | apply Kd.R_drewN | apply Kd.R_drew)); exact HO339.out))) (Kd.R_lt (by (with_reducible repeat (first | apply Kd.R_alloc | apply Kd.R_drewN | apply Kd.R_drew)); exact HO342.out))) (below_size (by repeat (first | (with_reducible first | exact HB.out | apply below_alloc | apply pw_below_drewN | apply below_drew1) | exact HB.out)))); have n7_ := Aside0.mk (below_step (by repeat (first | (with_reducible first | exact HB.out | apply below_alloc | apply pw_below_drewN | apply below_drew1) | exact HB.out)) hb); clear HO_7; clear HO330; clear HO333; clear HO336; clear HO339; clear HO342; clear HB; have HO_7 := n0_; have HO330 := n1_; have HO333 := n2_; have HO336 := n3_; have HO339 := n4_; have HO342 := n5_; have HO345 := n6_; have HB := n7_; clear n0_ n1_ n2_ n3_ n4_ n5_ n6_ n7_; (try clear hb); (try clear hb2); (try clear hk); (try clear hi); (try clear ho0); obtain ⟨Ao27, co27, eo27⟩ := Kd.R_slice HO345.out; subst eo27) | ((with_reducible refine gate_callee (f := 85) rfl ?_); refine goesL_ (some 29) rfl rfl Tryd.func85 (by kernel_rfl) rfl #[.slice Ao27 t343.length co27, .int .i64 2, .int .i64 7, .int .i64 8, .int .i64 13] rfl (by (try simp only [List.map_toArray, List.map_cons, List.map_nil]); first | done | rfl | (simp only [List.length_drop, List.length_take]; rfl)) ?_; (with_reducible refine (demurralref05_mix.calls _ _ t343 2 7 8 13 t346 _ ?side1 ?side2 A13.out).mono ?_); (case side1 => repeat (first | exact (Kd.R_reads' HO345.out).2.2 | (with_reducible refine Kd.C_alloc ?_ _) | (with_reducible refine Kd.C_drewN ?_ _) | (with_reducible refine Kd.C_drew ?_))); (case side2 => exact (Kd.R_reads' HO345.out).2.1); rintro e w28 ⟨v347, rfl, ho0, hb⟩; refine ⟨_, rfl, ?_⟩; have n0_ := Aside0.mk (Kd.R_elder' (by (with_reducible repeat (first | apply Kd.R_alloc | apply Kd.R_drewN | apply Kd.R_drew)); exact HO_7.out) (Kd.R_base ho0) hb); have n1_ := Aside0.mk (Kd.R_elder' (by (with_reducible repeat (first | apply Kd.R_alloc | apply Kd.R_drewN | apply Kd.R_drew)); exact HO330.out) (Kd.R_base ho0) hb); have n2_ := Aside0.mk (Kd.R_elder' (by (with_reducible repeat (first | apply Kd.R_alloc | apply Kd.R_drewN | apply Kd.R_drew)); exact HO333.out) (Kd.R_base ho0) hb); have n3_ := Aside0.mk (Kd.R_elder' (by (with_reducible repeat (first | apply Kd.R_alloc | apply Kd.R_drewN | apply Kd.R_drew)); exact HO336.out) (Kd.R_base ho0) hb); have n4_ := Aside0.mk (Kd.R_elder' (by (with_reducible repeat (first | apply Kd.R_alloc | apply Kd.R_drewN | apply Kd.R_drew)); exact HO339.out) (Kd.R_base ho0) hb); have n5_ := Aside0.mk (Kd.R_elder' (by (with_reducible repeat (first | apply Kd.R_alloc | apply Kd.R_drewN | apply Kd.R_drew)); exact HO342.out) (Kd.R_base ho0) hb); have n6_ := Aside0.mk (Kd.R_elder' (by (with_reducible repeat (first | apply Kd.R_alloc | apply Kd.R_drewN | apply Kd.R_drew)); exact HO345.out) (Kd.R_base ho0) hb); have n7_ := Aside0.mk (Kd.R_lower (Kd.R_new' (Kd.R_new' (Kd.R_new' (Kd.R_new' (Kd.R_new' (Kd.R_new' (Kd.R_new' ho0 (Kd.R_lt (by (with_reducible repeat (first | apply Kd.R_alloc | apply Kd.R_drewN | apply Kd.R_drew)); exact HO_7.out))) (Kd.R_lt (by (with_reducible repeat (first | apply Kd.R_alloc | apply Kd.R_drewN | apply Kd.R_drew)); exact HO330.out))) (Kd.R_lt (by (with_reducible repeat (first | apply Kd.R_alloc | apply Kd.R_drewN | apply Kd.R_drew)); exact HO333.out))) (Kd.R_lt (by (with_reducible repeat (first | apply Kd.R_alloc | apply Kd.R_drewN | apply Kd.R_drew)); exact HO336.out))) (Kd.R_lt (by (with_reducible repeat (first | apply Kd.R_alloc | apply Kd.R_drewN | apply Kd.R_drew)); exact HO339.out))) (Kd.R_lt (by (with_reducible repeat (first | apply Kd.R_alloc | apply Kd.R_drewN | apply Kd.R_drew)); exact HO342.out))) (Kd.R_lt (by (with_reducible repeat (first | apply Kd.R_alloc | apply Kd.R_drewN | apply Kd.R_drew)); exact HO345.out))) (below_size (by repeat (first | (with_reducible first | exact HB.out | apply below_alloc | apply pw_below_drewN | apply below_drew1) | exact HB.out)))); have n8_ := Aside0.mk (below_step (by repeat (first | (with_reducible first | exact HB.out | apply below_alloc | apply pw_below_drewN | apply below_drew1) | exact HB.out)) hb); clear HO_7; clear HO330; clear HO333; clear HO336; clear HO339; clear HO342; clear HO345; clear HB; have HO_7 := n0_; have HO330 := n1_; have HO333 := n2_; have HO336 := n3_; have HO339 := n4_; have HO342 := n5_; have HO345 := n6_; have HO348 := n7_; have HB := n8_; clear n0_ n1_ n2_ n3_ n4_ n5_ n6_ n7_ n8_; (try clear hb); (try clear hb2); (try clear hk); (try clear hi); (try clear ho0); obtain ⟨Ao29, co29, eo29⟩ := Kd.R_slice HO348.out; subst eo29) | ((with_reducible refine gate_callee (f := 85) rfl ?_); refine goesL_ (some 30) rfl rfl Tryd.func85 (by kernel_rfl) rfl #[.slice Ao29 t346.length co29, .int .i64 3, .int .i64 4, .int .i64 9, .int .i64 14] rfl (by (try simp only [List.map_toArray, List.map_cons, List.map_nil]); first | done | rfl | (simp only [List.length_drop, List.length_take]; rfl)) ?_; (with_reducible refine (demurralref05_mix.calls _ _ t346 3 4 9 14 t349 _ ?side1 ?side2 A14.out).mono ?_); (case side1 => repeat (first | exact (Kd.R_reads' HO348.out).2.2 | (with_reducible refine Kd.C_alloc ?_ _) | (with_reducible refine Kd.C_drewN ?_ _) | (with_reducible refine Kd.C_drew ?_))); (case side2 => exact (Kd.R_reads' HO348.out).2.1); rintro e w30 ⟨v350, rfl, ho0, hb⟩; refine ⟨_, rfl, ?_⟩; have n0_ := Aside0.mk (Kd.R_elder' (by (with_reducible repeat (first | apply Kd.R_alloc | apply Kd.R_drewN | apply Kd.R_drew)); exact HO_7.out) (Kd.R_base ho0) hb); have n1_ := Aside0.mk (Kd.R_elder' (by (with_reducible repeat (first | apply Kd.R_alloc | apply Kd.R_drewN | apply Kd.R_drew)); exact HO330.out) (Kd.R_base ho0) hb); have n2_ := Aside0.mk (Kd.R_elder' (by (with_reducible repeat (first | apply Kd.R_alloc | apply Kd.R_drewN | apply Kd.R_drew)); exact HO333.out) (Kd.R_base ho0) hb); have n3_ := Aside0.mk (Kd.R_elder' (by (with_reducible repeat (first | apply Kd.R_alloc | apply Kd.R_drewN | apply Kd.R_drew)); exact HO336.out) (Kd.R_base ho0) hb); have n4_ := Aside0.mk (Kd.R_elder' (by (with_reducible repeat (first | apply Kd.R_alloc | apply Kd.R_drewN | apply Kd.R_drew)); exact HO339.out) (Kd.R_base ho0) hb); have n5_ := Aside0.mk (Kd.R_elder' (by (with_reducible repeat (first | apply Kd.R_alloc | apply Kd.R_drewN | apply Kd.R_drew)); exact HO342.out) (Kd.R_base ho0) hb); have n6_ := Aside0.mk (Kd.R_elder' (by (with_reducible repeat (first | apply Kd.R_alloc | apply Kd.R_drewN | apply Kd.R_drew)); exact HO345.out) (Kd.R_base ho0) hb); have n7_ := Aside0.mk (Kd.R_elder' (by (with_reducible repeat (first | apply Kd.R_alloc | apply Kd.R_drewN | apply Kd.R_drew)); exact HO348.out) (Kd.R_base ho0) hb); have n8_ := Aside0.mk (Kd.R_lower (Kd.R_new' (Kd.R_new' (Kd.R_new' (Kd.R_new' (Kd.R_new' (Kd.R_new' (Kd.R_new' (Kd.R_new' ho0 (Kd.R_lt (by (with_reducible repeat (first | apply Kd.R_alloc | apply Kd.R_drewN | apply Kd.R_drew)); exact HO_7.out))) (Kd.R_lt (by (with_reducible repeat (first | apply Kd.R_alloc | apply Kd.R_drewN | apply Kd.R_drew)); exact HO330.out))) (Kd.R_lt (by (with_reducible repeat (first | apply Kd.R_alloc | apply Kd.R_drewN | apply Kd.R_drew)); exact HO333.out))) (Kd.R_lt (by (with_reducible repeat (first | apply Kd.R_alloc | apply Kd.R_drewN | apply Kd.R_drew)); exact HO336.out))) (Kd.R_lt (by (with_reducible repeat (first | apply Kd.R_alloc | apply Kd.R_drewN | apply Kd.R_drew)); exact HO339.out))) (Kd.R_lt (by (with_reducible repeat (first | apply Kd.R_alloc | apply Kd.R_drewN | apply Kd.R_drew)); exact HO342.out))) (Kd.R_lt (by (with_reducible repeat (first | apply Kd.R_alloc | apply Kd.R_drewN | apply Kd.R_drew)); exact HO345.out))) (Kd.R_lt (by (with_reducible repeat (first | apply Kd.R_alloc | apply Kd.R_drewN | apply Kd.R_drew)); exact HO348.out))) (below_size (by repeat (first | (with_reducible first | exact HB.out | apply below_alloc | apply pw_below_drewN | apply below_drew1) | exact HB.out)))); have n9_ := Aside0.mk (below_step (by repeat (first | (with_reducible first | exact HB.out | apply below_alloc | apply pw_below_drewN | apply below_drew1) | exact HB.out)) hb); clear HO_7; clear HO330; clear HO333; clear HO336; clear HO339; clear HO342; clear HO345; clear HO348; clear HB; have HO_7 := n0_; have HO330 := n1_; have HO333 := n2_; have HO336 := n3_; have HO339 := n4_; have HO342 := n5_; have HO345 := n6_; have HO348 := n7_; have HO351 := n8_; have HB := n9_; clear n0_ n1_ n2_ n3_ n4_ n5_ n6_ n7_ n8_ n9_; (try clear hb); (try clear hb2); (try clear hk); (try clear hi); (try clear ho0)))
        go_roundg k1
        case measure => have := HK1.out; omega
        case rel => exact ⟨(t349), (wrap64 (x8_1 + 1)), (by first | rfl | (simp; done) | (simp [*]; done)), H', ⟨by have := HK1.out; omega⟩, ⟨by (with_reducible repeat (first | apply Kd.R_alloc | apply Kd.R_drewN | apply Kd.R_drew)); exact Kd.R_mono HO351.out (fun _ hk => trivial)⟩, ⟨by repeat (first | (with_reducible first | exact HB.out | apply below_alloc | apply pw_below_drewN | apply below_drew1) | exact HB.out)⟩⟩
      · rw [if_neg c6] at H
        have c6b0 : decide (x8_1 < 10) = false := decide_eq_false c6
        clear c6
        obtain ⟨y352, hy352⟩ : ∃ y_ : List Int, y_ = (([] : List Int)) := ⟨_, rfl⟩
        replace H : ((demurralref05_first.f k1 a0 a1 a2).bind fun t355 => (demurralref05_Block.l1 k1 x7_1 y352 t355 (t355.length : Int) 0)) = some r := by first | (rw [hy352]; with_reducible exact H) | (have H2_ := (Option.bind_some _ _).symm.trans H; rw [hy352]; with_reducible exact H2_) | (have H2_ := (Option.bind_some _ _).symm.trans H; with_reducible exact H2_) | with_reducible exact H | (rw [hy352]; exact H) | exact H
        have Ny352 := Aside0.mk hy352
        clear hy352
        replace H := Option.bind_eq_some_iff.mp H
        obtain ⟨t355, A310, H⟩ := H
        replace H : (demurralref05_Block.l1 k1 x7_1 y352 t355 (t355.length : Int) 0) = some r := H
        have A31 := Aside0.mk A310
        clear A310
        have H' := Aside0.mk H
        clear H
        go_wp2_with (first | ((with_reducible refine gate_dst (N := 31) rfl ?_); refine Kd.R_lit (Kd.int .u8) _ 5 ?hg (N := 31) ?hd (xs := ([] : List Int)) (inner := []) (ok := fun _ => True) (okp := fun _ => True) ?hr ?hp (fun _ hk => hk) trivial (Below.refl _ _) (Nat.le_refl _) (by simp) ?_; (case hd => rfl); (case hg => rfl); (case hr => first | (go_simp; done) | (go_simp; rfl)); (case hp => exact (Reps.none _ _)); intro v353 w32 ho33 hb hg_ hnew_; clear hg_ hnew_; (first | rw [← Ny352.out] at ho33 | (simp only [Int.reduceToNat] at ho33; rw [← Ny352.out] at ho33)); have n0_ := Aside0.mk (Kd.R_below (by (with_reducible repeat (first | apply Kd.R_alloc | apply Kd.R_drewN | apply Kd.R_drew)); exact HO_7.out) hb); have n1_ := Aside0.mk (Kd.R_lower ho33 (below_size (by repeat (first | (with_reducible first | exact HB.out | apply below_alloc | apply pw_below_drewN | apply below_drew1) | exact HB.out)))); have n2_ := Aside0.mk (below_step (by repeat (first | (with_reducible first | exact HB.out | apply below_alloc | apply pw_below_drewN | apply below_drew1) | exact HB.out)) hb); clear HO_7; clear HB; have HO_7 := n0_; have HO354 := n1_; have HB := n2_; clear n0_ n1_ n2_; clear hb ho33) | ((with_reducible refine gate_callee (f := 84) rfl ?_); refine goesL_ (some 35) rfl rfl Tryd.func84 (by kernel_rfl) rfl #[.string a0, .int .u32 a1, .string a2] rfl (by (try simp only [List.map_toArray, List.map_cons, List.map_nil]); first | done | rfl | (simp only [List.length_drop, List.length_take]; rfl)) ?_; (with_reducible refine (demurralref05_first.calls k1 a0 a1 a2 t355 _ A31.out).mono ?_); rintro e w34 ⟨v356, rfl, ho0, hb⟩; refine ⟨_, rfl, ?_⟩; have n0_ := Aside0.mk (Kd.R_elder' (by (with_reducible repeat (first | apply Kd.R_alloc | apply Kd.R_drewN | apply Kd.R_drew)); exact HO_7.out) (Kd.R_base ho0) hb); have n1_ := Aside0.mk (Kd.R_below (by (with_reducible repeat (first | apply Kd.R_alloc | apply Kd.R_drewN | apply Kd.R_drew)); exact HO354.out) hb); have n2_ := Aside0.mk (Kd.R_lower (Kd.R_new' ho0 (Kd.R_lt (by (with_reducible repeat (first | apply Kd.R_alloc | apply Kd.R_drewN | apply Kd.R_drew)); exact HO_7.out))) (below_size (by repeat (first | (with_reducible first | exact HB.out | apply below_alloc | apply pw_below_drewN | apply below_drew1) | exact HB.out)))); have n3_ := Aside0.mk (below_step (by repeat (first | (with_reducible first | exact HB.out | apply below_alloc | apply pw_below_drewN | apply below_drew1) | exact HB.out)) hb); clear HO_7; clear HO354; clear HB; have HO_7 := n0_; have HO354 := n1_; have HO357 := n2_; have HB := n3_; clear n0_ n1_ n2_ n3_; (try clear hb); (try clear hb2); (try clear hk); (try clear hi); (try clear ho0); obtain ⟨Ao35, co35, eo35⟩ := Kd.R_slice HO357.out; subst eo35))
        go_loopg [9, 37] k1 (fun kq v9 v37 w' => ∃ (x9_2 : List Int) (x37_2 : Int), v37 = .int .i64 x37_2 ∧ Aside0 (demurralref05_Block.l1 kq x7_1 x9_2 t355 (t355.length : Int) x37_2 = some r) ∧ Aside0 (kq ≤ k1) ∧ Aside0 (Kd.R (Kd.int .u32) 83 w' w.heap.size (fun k_ => some k_ ≠ ((.slice Ao35 t355.length co35) : Value).ownBlock) u7 x7_1) ∧ Aside0 (Kd.R (Kd.int .u8) 5 w' w.heap.size (fun _ => True) v9 x9_2) ∧ Aside0 (Kd.R (Kd.int .u32) 83 w' w.heap.size (fun k_ => some k_ ≠ (u7 : Value).ownBlock) (.slice Ao35 t355.length co35) t355) ∧ Aside0 (Below w.heap.size w w'))
        case atStart => exact ⟨(y352), (0), (by first | rfl | (simp; done) | (simp [*]; done)), H', ⟨Nat.le_refl _⟩, ⟨by (with_reducible repeat (first | apply Kd.R_alloc | apply Kd.R_drewN | apply Kd.R_drew)); exact Kd.R_mono HO_7.out (fun _ hk => hk.2)⟩, ⟨by (with_reducible repeat (first | apply Kd.R_alloc | apply Kd.R_drewN | apply Kd.R_drew)); exact HO354.out⟩, ⟨by (with_reducible repeat (first | apply Kd.R_alloc | apply Kd.R_drewN | apply Kd.R_drew)); exact Kd.R_mono HO357.out (fun _ hk => hk.2)⟩, ⟨by repeat (first | (with_reducible first | exact HB.out | apply below_alloc | apply pw_below_drewN | apply below_drew1) | exact HB.out)⟩⟩
        case round =>
          clear H'
          try clear p2
          try clear c5
          try clear c6
          try clear c6b0
          try clear p6
          try clear c8
          try clear p2
          obtain ⟨x9_2, x37_2, rfl, HA, HK2, HO_7, HO_9, HO_35, HB⟩ := hrel
          cases gk with
          | zero => exact absurd HA.out (by simp [demurralref05_Block.l1])
          | succ k2 =>
            have H := HA.out
            clear HA
            simp only [demurralref05_Block.l1] at H
            by_cases c36 : x37_2 < (t355.length : Int)
            · rw [if_pos c36] at H
              have c36b0 : decide (x37_2 < (t355.length : Int)) = true := decide_eq_true c36
              clear c36
              by_cases c37 : 0 ≤ x37_2
              · rw [if_pos c37] at H
                have c37b0 : decide (0 ≤ x37_2) = true := decide_eq_true c37
                clear c37
                by_cases c38 : x37_2 < (t355.length : Int)
                · rw [if_pos c38] at H
                  have c38b0 : decide (x37_2 < (t355.length : Int)) = true := decide_eq_true c38
                  clear c38
                  by_cases c39 : x37_2 < (x7_1.length : Int)
                  · rw [if_pos c39] at H
                    have c39b0 : decide (x37_2 < (x7_1.length : Int)) = true := decide_eq_true c39
                    clear c39
                    obtain ⟨y360, hy360⟩ : ∃ y_ : List Int, y_ = (([((rd t355 x37_2) + (rd x7_1 x37_2)) % 256, ((((rd t355 x37_2) + (rd x7_1 x37_2)) % 4294967296) / 256) % 256, ((((rd t355 x37_2) + (rd x7_1 x37_2)) % 4294967296) / 65536) % 256, ((((rd t355 x37_2) + (rd x7_1 x37_2)) % 4294967296) / 16777216)] : List Int)) := ⟨_, rfl⟩
                    replace H : (if x9_2.length + y360.length < 140737488355328 then (demurralref05_Block.l1 k2 x7_1 (x9_2 ++ y360) t355 (t355.length : Int) (wrap64 (x37_2 + 1))) else (none)) = some r := by first | (rw [hy360]; with_reducible exact H) | (have H2_ := (Option.bind_some _ _).symm.trans H; rw [hy360]; with_reducible exact H2_) | (have H2_ := (Option.bind_some _ _).symm.trans H; with_reducible exact H2_) | with_reducible exact H | (rw [hy360]; exact H) | exact H
                    have Ny360 := Aside0.mk hy360
                    clear hy360
                    by_cases c40 : x9_2.length + y360.length < 140737488355328
                    · rw [if_pos c40] at H
                      have LMc40 := Aside0.mk c40
                      clear c40
                      obtain ⟨y363, hy363⟩ : ∃ y_ : List Int, y_ = (x9_2 ++ y360) := ⟨_, rfl⟩
                      replace H : (demurralref05_Block.l1 k2 x7_1 y363 t355 (t355.length : Int) (wrap64 (x37_2 + 1))) = some r := by first | (rw [hy363]; with_reducible exact H) | (have H2_ := (Option.bind_some _ _).symm.trans H; rw [hy363]; with_reducible exact H2_) | (have H2_ := (Option.bind_some _ _).symm.trans H; with_reducible exact H2_) | with_reducible exact H | (rw [hy363]; exact H) | exact H
                      have Ny363 := Aside0.mk hy363
                      clear hy363
                      have H' := Aside0.mk H
                      clear H
                      have p358 : 0 ≤ (x37_2 : Int) := of_decide_eq_true (by first | (with_reducible assumption) | assumption)
                      have q358 : x37_2 < (t355.length : Int) := of_decide_eq_true (by first | (with_reducible assumption) | assumption)
                      obtain ⟨ad358, e358, hx358_0⟩ := Kd.at_int (Kd.R_reads' HO_35.out).2.2 x37_2 p358 q358
                      cases e358
                      replace p358 := eq_true p358
                      replace q358 := eq_true q358
                      obtain ⟨Ao41, co41, eo41⟩ := Kd.R_slice HO_7.out
                      subst eo41
                      have p359 : 0 ≤ (x37_2 : Int) := of_decide_eq_true (by first | (with_reducible assumption) | assumption)
                      have q359 : x37_2 < (x7_1.length : Int) := of_decide_eq_true (by first | (with_reducible assumption) | assumption)
                      obtain ⟨ad359, e359, hx359_0⟩ := Kd.at_int (Kd.R_reads' HO_7.out).2.2 x37_2 p359 q359
                      cases e359
                      replace p359 := eq_true p359
                      replace q359 := eq_true q359
                      go_wp2_with (first | ((with_reducible refine gate_dst (N := 63) rfl ?_); refine Kd.R_lit (Kd.int .u8) _ 5 ?hg (N := 63) ?hd (xs := ([((rd t355 x37_2) + (rd x7_1 x37_2)) % 256, ((((rd t355 x37_2) + (rd x7_1 x37_2)) % 4294967296) / 256) % 256, ((((rd t355 x37_2) + (rd x7_1 x37_2)) % 4294967296) / 65536) % 256, ((((rd t355 x37_2) + (rd x7_1 x37_2)) % 4294967296) / 16777216)] : List Int)) (inner := [.int .u8 (((rd t355 x37_2) + (rd x7_1 x37_2)) % 256), .int .u8 (((((rd t355 x37_2) + (rd x7_1 x37_2)) % 4294967296) / 256) % 256), .int .u8 (((((rd t355 x37_2) + (rd x7_1 x37_2)) % 4294967296) / 65536) % 256), .int .u8 (((((rd t355 x37_2) + (rd x7_1 x37_2)) % 4294967296) / 16777216))]) (ok := fun _ => True) (okp := fun _ => True) ?hr ?hp (fun _ hk => hk) trivial (Below.refl _ _) (Nat.le_refl _) (by simp) ?_; (case hd => rfl); (case hg => rfl); (case hr => first | (go_simp; done) | (go_simp; rfl)); (case hp => exact (Reps.one (show Kd.M (Kd.int .u8) _ _ _ (((rd t355 x37_2) + (rd x7_1 x37_2)) % 256) [.int .u8 (((rd t355 x37_2) + (rd x7_1 x37_2)) % 256)] from rfl) (Reps.one (show Kd.M (Kd.int .u8) _ _ _ (((((rd t355 x37_2) + (rd x7_1 x37_2)) % 4294967296) / 256) % 256) [.int .u8 (((((rd t355 x37_2) + (rd x7_1 x37_2)) % 4294967296) / 256) % 256)] from rfl) (Reps.one (show Kd.M (Kd.int .u8) _ _ _ (((((rd t355 x37_2) + (rd x7_1 x37_2)) % 4294967296) / 65536) % 256) [.int .u8 (((((rd t355 x37_2) + (rd x7_1 x37_2)) % 4294967296) / 65536) % 256)] from rfl) (Reps.one (show Kd.M (Kd.int .u8) _ _ _ (((((rd t355 x37_2) + (rd x7_1 x37_2)) % 4294967296) / 16777216)) [.int .u8 (((((rd t355 x37_2) + (rd x7_1 x37_2)) % 4294967296) / 16777216))] from rfl) (Reps.none _ _)))))); intro v361 w42 ho43 hb hg_ hnew_; clear hg_ hnew_; (first | rw [← Ny360.out] at ho43 | (simp only [Int.reduceToNat] at ho43; rw [← Ny360.out] at ho43)); have n0_ := Aside0.mk (Kd.R_below (by (with_reducible repeat (first | apply Kd.R_alloc | apply Kd.R_drewN | apply Kd.R_drew)); exact HO_7.out) hb); have n1_ := Aside0.mk (Kd.R_elder' (by (with_reducible repeat (first | apply Kd.R_alloc | apply Kd.R_drewN | apply Kd.R_drew)); exact HO_9.out) (Kd.R_base ho43) hb); have n2_ := Aside0.mk (Kd.R_below (by (with_reducible repeat (first | apply Kd.R_alloc | apply Kd.R_drewN | apply Kd.R_drew)); exact HO_35.out) hb); have n3_ := Aside0.mk (Kd.R_lower (Kd.R_new' ho43 (Kd.R_lt (by (with_reducible repeat (first | apply Kd.R_alloc | apply Kd.R_drewN | apply Kd.R_drew)); exact HO_9.out))) (below_size (by repeat (first | (with_reducible first | exact HB.out | apply below_alloc | apply pw_below_drewN | apply below_drew1) | exact HB.out)))); have n4_ := Aside0.mk (below_step (by repeat (first | (with_reducible first | exact HB.out | apply below_alloc | apply pw_below_drewN | apply below_drew1) | exact HB.out)) hb); clear HO_7; clear HO_9; clear HO_35; clear HB; have HO_7 := n0_; have HO_9 := n1_; have HO_35 := n2_; have HO362 := n3_; have HB := n4_; clear n0_ n1_ n2_ n3_ n4_; clear hb ho43; obtain ⟨Ao45, co45, eo45⟩ := Kd.R_slice HO362.out; subst eo45) | ((with_reducible refine gate_builtin (b := .append) (xs := #[.tmp 48, .tmp 63]) rfl ?_); at_builtin; refine Kd.R_append_rows (Kd.int .u8) (w0 := w) w.heap.size rfl (.tmp 48) (.tmp 63) 42 5 (.int .u8 0) 1 rfl Tryd.underlying42 info5 rfl (by decide) (by omega) u9 x9_2 y360 _ _ _ (fun k_ => some k_ ≠ (.slice Ao45 y360.length co45 : Value).ownBlock) (fun _ => False) rfl rfl ?aO ?aR (fun _ _ h => h) (fun _ h => h.elim) ?aF ?aB ?aS ?aL ?_; (case aR => repeat (first | exact (Kd.R_reads' HO362.out).2.2 | (with_reducible refine Kd.C_alloc ?_ _) | (with_reducible refine Kd.C_drewN ?_ _) | (with_reducible refine Kd.C_drew ?_))); (case aB => exact (by repeat (first | (with_reducible first | exact HB.out | apply below_alloc | apply pw_below_drewN | apply below_drew1) | exact HB.out))); (case aF => exact (fun k_ hk => Kd.fresh' (Kd.R_lt (by (with_reducible repeat (first | apply Kd.R_alloc | apply Kd.R_drewN | apply Kd.R_drew)); exact HO362.out)) k_ hk)); (case aO => exact (by (with_reducible repeat (first | apply Kd.R_alloc | apply Kd.R_drewN | apply Kd.R_drew)); exact Kd.R_mono HO_9.out (fun _ hk => hk.2))); (case aS => exact (below_size (by repeat (first | (with_reducible first | exact HB.out | apply below_alloc | apply pw_below_drewN | apply below_drew1) | exact HB.out)))); (case aL => have := LMc40.out; omega); intro v364 w44 ho hb hg hat; rw [← Ny363.out] at ho; have n0_ := Aside0.mk (Kd.R_over' (by (with_reducible repeat (first | apply Kd.R_alloc | apply Kd.R_drewN | apply Kd.R_drew)); exact HO_7.out) (Kd.R_typed (by (with_reducible repeat (first | apply Kd.R_alloc | apply Kd.R_drewN | apply Kd.R_drew)); exact HO_9.out)) (by decide) hg); have n1_ := Aside0.mk (Kd.R_over' (by (with_reducible repeat (first | apply Kd.R_alloc | apply Kd.R_drewN | apply Kd.R_drew)); exact HO_35.out) (Kd.R_typed (by (with_reducible repeat (first | apply Kd.R_alloc | apply Kd.R_drewN | apply Kd.R_drew)); exact HO_9.out)) (by decide) hg); have n2_ := Aside0.mk (Kd.R_after (ok := (fun _ => True)) (by (with_reducible repeat (first | apply Kd.R_alloc | apply Kd.R_drewN | apply Kd.R_drew)); exact HO362.out) hg hat); have n3_ := Aside0.mk (hb); have n4_ := Aside0.mk (ho); clear HO_7; clear HO_35; clear HO362; clear HB; clear HO_9; have HO_7 := n0_; have HO_35 := n1_; have HO362 := n2_; have HB := n3_; have HO365 := n4_; clear n0_ n1_ n2_ n3_ n4_; clear ho hb hg hat))
                      go_roundg k2
                      case measure => have := HK1.out; have := HK2.out; omega
                      case rel => exact ⟨(y363), (wrap64 (x37_2 + 1)), (by first | rfl | (simp; done) | (simp [*]; done)), H', ⟨by have := HK1.out; have := HK2.out; omega⟩, ⟨by (with_reducible repeat (first | apply Kd.R_alloc | apply Kd.R_drewN | apply Kd.R_drew)); exact HO_7.out⟩, ⟨by (with_reducible repeat (first | apply Kd.R_alloc | apply Kd.R_drewN | apply Kd.R_drew)); exact Kd.R_mono HO365.out (fun _ hk => trivial)⟩, ⟨by (with_reducible repeat (first | apply Kd.R_alloc | apply Kd.R_drewN | apply Kd.R_drew)); exact HO_35.out⟩, ⟨by repeat (first | (with_reducible first | exact HB.out | apply below_alloc | apply pw_below_drewN | apply below_drew1) | exact HB.out)⟩⟩
                    · rw [if_neg c40] at H
                      exact absurd H (by simp)
                  · rw [if_neg c39] at H
                    exact absurd H (by simp)
                · rw [if_neg c38] at H
                  exact absurd H (by simp)
              · rw [if_neg c37] at H
                exact absurd H (by simp)
            · rw [if_neg c36] at H
              have c36b0 : decide (x37_2 < (t355.length : Int)) = false := decide_eq_false c36
              clear c36
              obtain rfl := Option.some.inj H
              have hcv46 := own_string (P := Tryd.prog) Tryd.underlying42 Tryd.underlying5 Tryd.underlying9 (Kd.own_of_R HO_9.out)
              go_wp2
              go_ret
              exact ⟨by first | rfl | (simp [errW_none, errW_some] <;> rfl) | (simp [*, errW_none, errW_some] <;> rfl), by repeat (first | (with_reducible first | exact HB.out | apply below_alloc | apply pw_below_drewN | apply below_drew1) | exact HB.out)⟩

/-! ### demurralref05_Stream: function 44 -/
def demurralref05_Stream.l0 : Nat → ByteArray → ByteArray → Int → ByteArray → Int → Option (ByteArray)
  | 0, _, _, _, _, _ => none
  | k + 1, x0, x1, x2, x7, x8 => if (x7.size : Int) < x2 then ((demurralref05_Block.f k x0 x8 x1).bind fun t366 => (if x7.size + t366.size ≤ 9223372036854775807 then (demurralref05_Stream.l0 k x0 x1 x2 (x7 ++ t366) ((x8 + 1) % 4294967296)) else (none))) else (if 0 ≤ x2 then (if x2 ≤ (x7.size : Int) then (some (x7.extract 0 (x2 : Int).toNat)) else (none)) else (none))
def demurralref05_Stream.f (k : Nat) (a0 : ByteArray) (a1 : ByteArray) (a2 : Int) : Option (ByteArray) := demurralref05_Stream.l0 k a0 a1 a2 (⟨#[]⟩ : ByteArray) 1
theorem demurralref05_Stream.mono_l : ∀ k, (∀ y0 y1 y2 y3 y4, LeO (demurralref05_Stream.l0 k y0 y1 y2 y3 y4) (demurralref05_Stream.l0 (k + 1) y0 y1 y2 y3 y4))
  | 0 => fun _ _ _ _ _ r h => by simp [demurralref05_Stream.l0] at h
  | k + 1 => by
    have ih0 := demurralref05_Stream.mono_l k
    · intro y0 y1 y2 y3 y4
      unfold demurralref05_Stream.l0
      repeat' first
      | (with_reducible exact ih0 _ _ _ _ _)
      | (with_reducible exact demurralref05_Block.mono _ _ _ _)
      | (with_reducible exact LeO.refl _)
      | (with_reducible exact LeO.none _)
      | (with_reducible refine LeO.ite ?_ ?_)
      | (with_reducible refine LeO.bind ?_ (fun _ => ?_))
      | exact ih0 _ _ _ _ _
      | exact demurralref05_Block.mono _ _ _ _
      | exact LeO.none _
      | refine LeO.ite ?_ ?_
      | refine LeO.bind ?_ (fun _ => ?_)
theorem demurralref05_Stream.mono : ∀ a0 a1 a2 k, LeO (demurralref05_Stream.f k a0 a1 a2) (demurralref05_Stream.f (k + 1) a0 a1 a2) := by
  intro a0 a1 a2 k
  have ih0 := demurralref05_Stream.mono_l k
  unfold demurralref05_Stream.f
  repeat' first
      | (with_reducible exact ih0 _ _ _ _ _)
      | (with_reducible exact demurralref05_Block.mono _ _ _ _)
      | (with_reducible exact LeO.refl _)
      | (with_reducible exact LeO.none _)
      | (with_reducible refine LeO.ite ?_ ?_)
      | (with_reducible refine LeO.bind ?_ (fun _ => ?_))
      | exact ih0 _ _ _ _ _
      | exact demurralref05_Block.mono _ _ _ _
      | exact LeO.none _
      | refine LeO.ite ?_ ?_
      | refine LeO.bind ?_ (fun _ => ?_)
set_option maxHeartbeats 8000000 in
set_option maxRecDepth 100000 in
theorem demurralref05_Stream.calls (k : Nat) (a0 : ByteArray) (a1 : ByteArray) (a2 : Int) (r : ByteArray) (w : World) (h : demurralref05_Stream.f k a0 a1 a2 = some r) :
    Calls Tryd.prog 44 #[.string a0, .string a1, .int .i64 a2] w fun e w' => e = .returned (.string r) ∧ Below w.heap.size w w' := by
  have HB := Aside0.mk (Below.refl w.heap.size w)
  have H : (demurralref05_Stream.l0 k a0 a1 a2 (⟨#[]⟩ : ByteArray) 1) = some r := h
  clear h
  have H' := Aside0.mk H
  clear H
  go_enter Tryd.func44, Tryd.ntmps44
  go_wp2
  go_loopg [7, 8] k (fun kq v7 v8 w' => ∃ (x7_1 : ByteArray) (x8_1 : Int), v7 = .string x7_1 ∧ v8 = .int .u32 x8_1 ∧ Aside0 (demurralref05_Stream.l0 kq a0 a1 a2 x7_1 x8_1 = some r) ∧ Aside0 (kq ≤ k) ∧ Aside0 (Below w.heap.size w w'))
  case atStart => exact ⟨((⟨#[]⟩ : ByteArray)), (1), (by first | rfl | (simp; done) | (simp [*]; done)), (by first | rfl | (simp; done) | (simp [*]; done)), H', ⟨Nat.le_refl _⟩, ⟨by repeat (first | (with_reducible first | exact HB.out | apply below_alloc | apply pw_below_drewN | apply below_drew1) | exact HB.out)⟩⟩
  case round =>
    clear H'
    try clear p2
    obtain ⟨x7_1, x8_1, rfl, rfl, HA, HK1, HB⟩ := hrel
    cases gk with
    | zero => exact absurd HA.out (by simp [demurralref05_Stream.l0])
    | succ k1 =>
      have H := HA.out
      clear HA
      simp only [demurralref05_Stream.l0] at H
      by_cases c4 : (x7_1.size : Int) < a2
      · rw [if_pos c4] at H
        have c4b0 : decide ((x7_1.size : Int) < a2) = true := decide_eq_true c4
        clear c4
        replace H := Option.bind_eq_some_iff.mp H
        obtain ⟨t366, A50, H⟩ := H
        replace H : (if x7_1.size + t366.size ≤ 9223372036854775807 then (demurralref05_Stream.l0 k1 a0 a1 a2 (x7_1 ++ t366) ((x8_1 + 1) % 4294967296)) else (none)) = some r := H
        have A5 := Aside0.mk A50
        clear A50
        by_cases c6 : x7_1.size + t366.size ≤ 9223372036854775807
        · rw [if_pos c6] at H
          have c6b0 := eq_true c6
          have c6b1 : decide (x7_1.size + t366.size ≤ 9223372036854775807) = true := decide_eq_true c6
          try have c6b2 : (9223372036854775807 < x7_1.size + t366.size) = False := eq_false (Nat.not_lt.2 c6)
          have H' := Aside0.mk H
          clear H
          go_wp2_with (first | ((with_reducible refine gate_callee (f := 58) rfl ?_); refine goesL_ (some 17) rfl rfl Tryd.func58 (by kernel_rfl) rfl #[.string a0, .int .u32 x8_1, .string a1] rfl (by (try simp only [List.map_toArray, List.map_cons, List.map_nil]); first | done | rfl | (simp only [List.length_drop, List.length_take]; rfl)) ?_; (with_reducible refine (demurralref05_Block.calls k1 a0 x8_1 a1 t366 _ A5.out).mono ?_); rintro e w7 ⟨rfl, hb⟩; refine ⟨_, rfl, ?_⟩; have n0_ := Aside0.mk (below_step (by repeat (first | (with_reducible first | exact HB.out | apply below_alloc | apply pw_below_drewN | apply below_drew1) | exact HB.out)) hb); clear HB; have HB := n0_; clear n0_; (try clear hb); (try clear hb2); (try clear hk); (try clear hi)))
          go_roundg k1
          case measure => have := HK1.out; omega
          case rel => exact ⟨(x7_1 ++ t366), ((x8_1 + 1) % 4294967296), (by first | rfl | (simp; done) | (simp [*]; done)), (by first | rfl | (simp; done) | (simp [*]; done)), H', ⟨by have := HK1.out; omega⟩, ⟨by repeat (first | (with_reducible first | exact HB.out | apply below_alloc | apply pw_below_drewN | apply below_drew1) | exact HB.out)⟩⟩
        · rw [if_neg c6] at H
          exact absurd H (by simp)
      · rw [if_neg c4] at H
        have c4b0 : decide ((x7_1.size : Int) < a2) = false := decide_eq_false c4
        clear c4
        by_cases c8 : 0 ≤ a2
        · rw [if_pos c8] at H
          have c8b0 := eq_true c8
          have c8b1 : decide (0 ≤ a2) = true := decide_eq_true c8
          clear c8
          by_cases c9 : a2 ≤ (x7_1.size : Int)
          · rw [if_pos c9] at H
            have c9b0 := eq_true c9
            have c9b1 : decide (a2 ≤ (x7_1.size : Int)) = true := decide_eq_true c9
            clear c9
            obtain rfl := Option.some.inj H
            go_wp2
            go_ret
            exact ⟨by first | rfl | (simp [errW_none, errW_some] <;> rfl) | (simp [*, errW_none, errW_some] <;> rfl), by repeat (first | (with_reducible first | exact HB.out | apply below_alloc | apply pw_below_drewN | apply below_drew1) | exact HB.out)⟩
          · rw [if_neg c9] at H
            exact absurd H (by simp)
        · rw [if_neg c8] at H
          exact absurd H (by simp)

/-! ### demurralref05_Xor: function 32 -/
def demurralref05_Xor.l0 : Nat → ByteArray → ByteArray → List Int → Int → Option (ByteArray)
  | 0, _, _, _, _ => none
  | k + 1, x2, x7, x8, x9 => if x9 < (x2.size : Int) then (if 0 ≤ x9 then (if x9 < (x7.size : Int) then (if x8.length < 140737488355328 then (demurralref05_Xor.l0 k x2 x7 (x8 ++ [Go.bits .xor .u8 (bt x2 x9) (bt x7 x9)]) (wrap64 (x9 + 1))) else (none)) else (none)) else (none)) else (some (strOfNums x8))
def demurralref05_Xor.f (k : Nat) (a0 : ByteArray) (a1 : ByteArray) (a2 : ByteArray) : Option (ByteArray) := (demurralref05_Stream.f k a0 a1 (a2.size : Int)).bind fun t367 => (demurralref05_Xor.l0 k a2 t367 (([] : List Int)) 0)
theorem demurralref05_Xor.mono_l : ∀ k, (∀ y0 y1 y2 y3, LeO (demurralref05_Xor.l0 k y0 y1 y2 y3) (demurralref05_Xor.l0 (k + 1) y0 y1 y2 y3))
  | 0 => fun _ _ _ _ r h => by simp [demurralref05_Xor.l0] at h
  | k + 1 => by
    have ih0 := demurralref05_Xor.mono_l k
    · intro y0 y1 y2 y3
      unfold demurralref05_Xor.l0
      repeat' first
      | (with_reducible exact ih0 _ _ _ _)
      | (with_reducible exact demurralref05_Stream.mono _ _ _ _)
      | (with_reducible exact LeO.refl _)
      | (with_reducible exact LeO.none _)
      | (with_reducible refine LeO.ite ?_ ?_)
      | (with_reducible refine LeO.bind ?_ (fun _ => ?_))
      | exact ih0 _ _ _ _
      | exact demurralref05_Stream.mono _ _ _ _
      | exact LeO.none _
      | refine LeO.ite ?_ ?_
      | refine LeO.bind ?_ (fun _ => ?_)
theorem demurralref05_Xor.mono : ∀ a0 a1 a2 k, LeO (demurralref05_Xor.f k a0 a1 a2) (demurralref05_Xor.f (k + 1) a0 a1 a2) := by
  intro a0 a1 a2 k
  have ih0 := demurralref05_Xor.mono_l k
  unfold demurralref05_Xor.f
  repeat' first
      | (with_reducible exact ih0 _ _ _ _)
      | (with_reducible exact demurralref05_Stream.mono _ _ _ _)
      | (with_reducible exact LeO.refl _)
      | (with_reducible exact LeO.none _)
      | (with_reducible refine LeO.ite ?_ ?_)
      | (with_reducible refine LeO.bind ?_ (fun _ => ?_))
      | exact ih0 _ _ _ _
      | exact demurralref05_Stream.mono _ _ _ _
      | exact LeO.none _
      | refine LeO.ite ?_ ?_
      | refine LeO.bind ?_ (fun _ => ?_)
def demurralref05_Xor.T6 : Bool × List (List Nat × List Nat) := (true, [([], []), ([], []), ([], []), ([1, 2], [1, 2]), ([], []), ([], []), ([4, 5], [4, 5]), ([3, 6], [3, 6]), ([7], [7]), ([0, 8], [0, 8]), ([9, 9, 0, 1, 2, 3, 4, 5, 6, 7, 8, 9], [0, 9])])
def demurralref05_Xor.B6 : List Nat := [0, 0, 0, 6, 0, 0, 48, 126, 254, 511, 1023]
theorem demurralref05_Xor.tab6 : rtab .any (opsOf Tryd.f32 6) = demurralref05_Xor.T6 := by kernel_rfl
theorem demurralref05_Xor.bits6 : waitsOk demurralref05_Xor.T6.2 demurralref05_Xor.B6 = true := by kernel_rfl
set_option maxHeartbeats 8000000 in
set_option maxRecDepth 100000 in
theorem demurralref05_Xor.calls (k : Nat) (a0 : ByteArray) (a1 : ByteArray) (a2 : ByteArray) (r : ByteArray) (w : World) (h : demurralref05_Xor.f k a0 a1 a2 = some r) :
    Calls Tryd.prog 32 #[.string a0, .string a1, .string a2] w fun e w' => e = .returned (.string r) ∧ Below w.heap.size w w' := by
  have HB := Aside0.mk (Below.refl w.heap.size w)
  have H : ((demurralref05_Stream.f k a0 a1 (a2.size : Int)).bind fun t367 => (demurralref05_Xor.l0 k a2 t367 (([] : List Int)) 0)) = some r := h
  clear h
  replace H := Option.bind_eq_some_iff.mp H
  obtain ⟨t367, A40, H⟩ := H
  replace H : (demurralref05_Xor.l0 k a2 t367 (([] : List Int)) 0) = some r := H
  have A4 := Aside0.mk A40
  clear A40
  obtain ⟨y368, hy368⟩ : ∃ y_ : List Int, y_ = (([] : List Int)) := ⟨_, rfl⟩
  replace H : (demurralref05_Xor.l0 k a2 t367 y368 0) = some r := by first | (rw [hy368]; with_reducible exact H) | (have H2_ := (Option.bind_some _ _).symm.trans H; rw [hy368]; with_reducible exact H2_) | (have H2_ := (Option.bind_some _ _).symm.trans H; with_reducible exact H2_) | with_reducible exact H | (rw [hy368]; exact H) | exact H
  have Ny368 := Aside0.mk hy368
  clear hy368
  have H' := Aside0.mk H
  clear H
  go_enter Tryd.func32, Tryd.ntmps32
  go_wp2_with (first | ((with_reducible refine gate_callee (f := 44) rfl ?_); refine goesL_ (some 14) rfl rfl Tryd.func44 (by kernel_rfl) rfl #[.string a0, .string a1, .int .i64 (a2.size : Int)] rfl (by (try simp only [List.map_toArray, List.map_cons, List.map_nil]); first | done | rfl | (simp only [List.length_drop, List.length_take]; rfl)) ?_; (with_reducible refine (demurralref05_Stream.calls k a0 a1 (a2.size : Int) t367 _ A4.out).mono ?_); rintro e w5 ⟨rfl, hb⟩; refine ⟨_, rfl, ?_⟩; have n0_ := Aside0.mk (below_step (by repeat (first | (with_reducible first | exact HB.out | apply below_alloc | apply pw_below_drewN | apply below_drew1) | exact HB.out)) hb); clear HB; have HB := n0_; clear n0_; (try clear hb); (try clear hb2); (try clear hk); (try clear hi)) | ((with_reducible refine gate_dst (N := 15) rfl ?_); refine Kd.R_lit (Kd.int .u8) _ 5 ?hg (N := 15) ?hd (xs := ([] : List Int)) (inner := []) (ok := fun _ => True) (okp := fun _ => True) ?hr ?hp (fun _ hk => hk) trivial (Below.refl _ _) (Nat.le_refl _) (by simp) ?_; (case hd => rfl); (case hg => rfl); (case hr => first | (go_simp; done) | (go_simp; rfl)); (case hp => exact (Reps.none _ _)); intro v369 w6 ho7 hb hg_ hnew_; clear hg_ hnew_; (first | rw [← Ny368.out] at ho7 | (simp only [Int.reduceToNat] at ho7; rw [← Ny368.out] at ho7)); have n0_ := Aside0.mk (Kd.R_lower ho7 (below_size (by repeat (first | (with_reducible first | exact HB.out | apply below_alloc | apply pw_below_drewN | apply below_drew1) | exact HB.out)))); have n1_ := Aside0.mk (below_step (by repeat (first | (with_reducible first | exact HB.out | apply below_alloc | apply pw_below_drewN | apply below_drew1) | exact HB.out)) hb); clear HB; have HO370 := n0_; have HB := n1_; clear n0_ n1_; clear hb ho7))
  go_loopg [8, 9] k (fun kq v8 v9 w' => ∃ (x8_1 : List Int) (x9_1 : Int), v9 = .int .i64 x9_1 ∧ Aside0 (demurralref05_Xor.l0 kq a2 t367 x8_1 x9_1 = some r) ∧ Aside0 (kq ≤ k) ∧ Aside0 (Kd.R (Kd.int .u8) 5 w' w.heap.size (fun _ => True) v8 x8_1) ∧ Aside0 (Below w.heap.size w w'))
  case atStart => exact ⟨(y368), (0), (by first | rfl | (simp; done) | (simp [*]; done)), H', ⟨Nat.le_refl _⟩, ⟨by (with_reducible repeat (first | apply Kd.R_alloc | apply Kd.R_drewN | apply Kd.R_drew)); exact HO370.out⟩, ⟨by repeat (first | (with_reducible first | exact HB.out | apply below_alloc | apply pw_below_drewN | apply below_drew1) | exact HB.out)⟩⟩
  case round =>
    clear H'
    try clear p2
    try clear c3
    try clear c4
    obtain ⟨x8_1, x9_1, rfl, HA, HK1, HO_8, HB⟩ := hrel
    cases gk with
    | zero => exact absurd HA.out (by simp [demurralref05_Xor.l0])
    | succ k1 =>
      have H := HA.out
      clear HA
      simp only [demurralref05_Xor.l0] at H
      by_cases c8 : x9_1 < (a2.size : Int)
      · rw [if_pos c8] at H
        have c8b0 : decide (x9_1 < (a2.size : Int)) = true := decide_eq_true c8
        clear c8
        by_cases c9 : 0 ≤ x9_1
        · rw [if_pos c9] at H
          have c9b0 : decide (0 ≤ x9_1) = true := decide_eq_true c9
          clear c9
          by_cases c11 : x9_1 < (t367.size : Int)
          · rw [if_pos c11] at H
            have c11b0 : decide (x9_1 < (t367.size : Int)) = true := decide_eq_true c11
            clear c11
            by_cases c13 : x8_1.length < 140737488355328
            · rw [if_pos c13] at H
              have LMc13 := Aside0.mk c13
              clear c13
              obtain ⟨y371, hy371⟩ : ∃ y_ : List Int, y_ = (x8_1 ++ [Go.bits .xor .u8 (bt a2 x9_1) (bt t367 x9_1)]) := ⟨_, rfl⟩
              replace H : (demurralref05_Xor.l0 k1 a2 t367 y371 (wrap64 (x9_1 + 1))) = some r := by first | (rw [hy371]; with_reducible exact H) | (have H2_ := (Option.bind_some _ _).symm.trans H; rw [hy371]; with_reducible exact H2_) | (have H2_ := (Option.bind_some _ _).symm.trans H; with_reducible exact H2_) | with_reducible exact H | (rw [hy371]; exact H) | exact H
              have Ny371 := Aside0.mk hy371
              clear hy371
              have H' := Aside0.mk H
              clear H
              try go_wp2
              have n0_ := Aside0.mk (Kd.R_drew HO_8.out)
              have n1_ := Aside0.mk (below_drew1 HB.out)
              clear HO_8
              clear HB
              have HO_8 := n0_
              have HB := n1_
              clear n0_ n1_
              have p10 : 0 ≤ (x9_1 : Int) := of_decide_eq_true (by first | (with_reducible assumption) | assumption)
              have q10 : x9_1 < (a2.size : Int) := of_decide_eq_true (by first | (with_reducible assumption) | assumption)
              have hx10 := bt_at a2 x9_1
              replace p10 := eq_true p10
              replace q10 := eq_true q10
              have p12 : 0 ≤ (x9_1 : Int) := of_decide_eq_true (by first | (with_reducible assumption) | assumption)
              have q12 : x9_1 < (t367.size : Int) := of_decide_eq_true (by first | (with_reducible assumption) | assumption)
              have hx12 := bt_at t367 x9_1
              replace p12 := eq_true p12
              replace q12 := eq_true q12
              refine start_ (n := 11) (S := fun w' => True) (ds := []) #[false, false, false, false, false, false, false, false, false, false, false] (by kernel_rfl) rfl rfl trivial (fun hHeld => ?_); refine with_tabW demurralref05_Xor.tab6 demurralref05_Xor.bits6 (fun HT_ HW_ => ?_)
              generalize wr.drew = w14 at HO_8 HB hHeld ⊢
              refine pure_ (i := 0) (N := some 22) (v := ?_) (a' := ?_) #[true, false, false, false, false, false, false, false, false, false, false] rfl rfl (any_of HT_.out (by kernel_rfl)) (fun _ _ _ h => h) (Or.inl ⟨by rfl, ?_⟩) ?_ ?_
              rotate_left
              · intro w'
                go_simp
                with_reducible rfl
              rotate_left
              · simp only [Act.put, List.setIfInBounds_toArray, List.set_cons_zero, List.set_cons_succ, i64_w, i32_w]
                rfl
              refine pure_ (i := 1) (N := some 23) (v := ?_) (a' := ?_) #[true, true, false, false, false, false, false, false, false, false, false] rfl rfl (any_of HT_.out (by kernel_rfl)) (fun _ _ _ h => h) (Or.inl ⟨by rfl, ?_⟩) ?_ ?_
              rotate_left
              · intro w'
                go_simp
                with_reducible rfl
              rotate_left
              · simp only [Act.put, List.setIfInBounds_toArray, List.set_cons_zero, List.set_cons_succ, i64_w, i32_w]
                rfl
              refine pure_ (i := 2) (N := some 24) (v := ?_) (a' := ?_) #[true, true, true, false, false, false, false, false, false, false, false] rfl rfl (any_of HT_.out (by kernel_rfl)) (fun _ _ _ h => h) (Or.inl ⟨by rfl, ?_⟩) ?_ ?_
              rotate_left
              · intro w'
                go_simp
                with_reducible rfl
              rotate_left
              · simp only [Act.put, List.setIfInBounds_toArray, List.set_cons_zero, List.set_cons_succ, i64_w, i32_w]
                rfl
              refine pure_ (i := 4) (N := some 26) (v := ?_) (a' := ?_) #[true, true, true, false, true, false, false, false, false, false, false] rfl rfl (any_of HT_.out (by kernel_rfl)) (fun _ _ _ h => h) (Or.inl ⟨by rfl, ?_⟩) ?_ ?_
              rotate_left
              · intro w'
                go_simp
                with_reducible rfl
              rotate_left
              · simp only [Act.put, List.setIfInBounds_toArray, List.set_cons_zero, List.set_cons_succ, i64_w, i32_w]
                rfl
              refine pure_ (i := 5) (N := some 27) (v := ?_) (a' := ?_) #[true, true, true, false, true, true, false, false, false, false, false] rfl rfl (any_of HT_.out (by kernel_rfl)) (fun _ _ _ h => h) (Or.inl ⟨by rfl, ?_⟩) ?_ ?_
              rotate_left
              · intro w'
                go_simp
                with_reducible rfl
              rotate_left
              · simp only [Act.put, List.setIfInBounds_toArray, List.set_cons_zero, List.set_cons_succ, i64_w, i32_w]
                rfl
              refine take_ (i := 3) (N := some 25) (v := ?_) (a' := ?_) #[true, true, true, true, true, true, false, false, false, false, false] rfl rfl (take_ofW HT_.out HW_.out (by kernel_rfl)) (fun _ _ _ h => h) (Or.inl ⟨by rfl, ?_⟩) hHeld ?_ ?_
              rotate_left
              · intro w' _
                go_simp
                with_reducible rfl
              rotate_left
              · simp only [Act.put, List.setIfInBounds_toArray, List.set_cons_zero, List.set_cons_succ, i64_w, i32_w]
                rfl
              refine take_ (i := 6) (N := some 28) (v := ?_) (a' := ?_) #[true, true, true, true, true, true, true, false, false, false, false] rfl rfl (take_ofW HT_.out HW_.out (by kernel_rfl)) (fun _ _ _ h => h) (Or.inl ⟨by rfl, ?_⟩) hHeld ?_ ?_
              rotate_left
              · intro w' _
                go_simp
                with_reducible rfl
              rotate_left
              · simp only [Act.put, List.setIfInBounds_toArray, List.set_cons_zero, List.set_cons_succ, i64_w, i32_w]
                rfl
              refine pure_ (i := 7) (N := some 29) (v := ?_) (a' := ?_) #[true, true, true, true, true, true, true, true, false, false, false] rfl rfl (any_of HT_.out (by kernel_rfl)) (fun _ _ _ h => h) (Or.inl ⟨by rfl, ?_⟩) ?_ ?_
              rotate_left
              · intro w'
                go_simp
                with_reducible rfl
              rotate_left
              · simp only [Act.put, List.setIfInBounds_toArray, List.set_cons_zero, List.set_cons_succ, i64_w, i32_w]
                rfl
              refine one_ (i := 8) (N := some 30) #[true, true, true, true, true, true, true, true, true, false, false] rfl rfl (one_of HT_.out (by kernel_rfl)) (by decide) (fun K hK => ?_)
              refine value_ (w1 := ?_) (v := ?_) (by rfl) rfl ?_ ?_
              rotate_left 2
              · go_simp
                constructor
                · rfl
                · rfl
              refine hK.out _ _ trivial (fun hHeld => ?_)
              clear hK K
              refine norm_ (a' := ?_) ?_ ?_
              rotate_left
              · show Act.put _ (some 30) _ = _
                simp only [Act.put, List.setIfInBounds_toArray, List.set_cons_zero, List.set_cons_succ, i64_w, i32_w]
                rfl
              refine one_ (i := 9) (N := some 31) #[true, true, true, true, true, true, true, true, true, true, false] rfl rfl (one_of HT_.out (by kernel_rfl)) (by decide) (fun K hK => ?_)
              refine Kd.R_append_step (Kd.int .u8) (w0 := w) w.heap.size (by rfl) (.tmp 22) (.tmp 30) 42 5 (.int .u8 0) 1 rfl Tryd.underlying42 info5 rfl (by decide) (by omega) u8 x8_1 (Go.bits .xor .u8 (bt a2 x9_1) (bt t367 x9_1)) [.int .u8 (Go.bits .xor .u8 (bt a2 x9_1) (bt t367 x9_1))] (fun _ => True) (fun _ => False) rfl rfl ?aP (fun _ hk => hk.elim) ?aF ?aO ?aB ?aS ?aL ?_
              (case aP => exact rfl)
              (case aB => exact (by repeat (first | (with_reducible first | exact HB.out | apply below_alloc | apply pw_below_drewN | apply below_drew1) | exact HB.out)))
              (case aF => exact (fun _ _ => trivial))
              (case aO => exact (by (with_reducible repeat (first | apply Kd.R_alloc | apply Kd.R_drewN | apply Kd.R_drew)); exact HO_8.out))
              (case aS => exact (below_size (by repeat (first | (with_reducible first | exact HB.out | apply below_alloc | apply pw_below_drewN | apply below_drew1) | exact HB.out))))
              (case aL => have := LMc13.out; omega)
              intro v372 w15 ho hb hg hat
              rw [← Ny371.out] at ho
              have n0_ := Aside0.mk (hb)
              have n1_ := Aside0.mk (ho)
              clear HB
              clear HO_8
              have HB := n0_
              have HO373 := n1_
              clear n0_ n1_
              clear ho hb hg hat
              refine hK.out _ _ trivial (fun hHeld => ?_)
              clear hK K
              refine norm_ (a' := ?_) ?_ ?_
              rotate_left
              · show Act.put _ (some 31) _ = _
                simp only [Act.put, List.setIfInBounds_toArray, List.set_cons_zero, List.set_cons_succ, i64_w, i32_w]
                rfl
              refine pure_ (i := 10) (N := some 8) (v := ?_) (a' := ?_) #[true, true, true, true, true, true, true, true, true, true, true] rfl rfl (any_of HT_.out (by kernel_rfl)) (fun _ _ _ h => h) (Or.inl ⟨by rfl, ?_⟩) ?_ ?_
              rotate_left
              · intro w'
                go_simp
                with_reducible rfl
              rotate_left
              · simp only [Act.put, List.setIfInBounds_toArray, List.set_cons_zero, List.set_cons_succ, i64_w, i32_w]
                rfl
              refine done_ (done_of HT_.out (by kernel_rfl)) ?_
              try go_wp2
              go_roundg k1
              case measure => have := HK1.out; omega
              case rel => exact ⟨(y371), (wrap64 (x9_1 + 1)), (by first | rfl | (simp; done) | (simp [*]; done)), H', ⟨by have := HK1.out; omega⟩, ⟨by (with_reducible repeat (first | apply Kd.R_alloc | apply Kd.R_drewN | apply Kd.R_drew)); exact HO373.out⟩, ⟨by repeat (first | (with_reducible first | exact HB.out | apply below_alloc | apply pw_below_drewN | apply below_drew1) | exact HB.out)⟩⟩
            · rw [if_neg c13] at H
              exact absurd H (by simp)
          · rw [if_neg c11] at H
            exact absurd H (by simp)
        · rw [if_neg c9] at H
          exact absurd H (by simp)
      · rw [if_neg c8] at H
        have c8b0 : decide (x9_1 < (a2.size : Int)) = false := decide_eq_false c8
        clear c8
        obtain rfl := Option.some.inj H
        have hcv16 := own_string (P := Tryd.prog) Tryd.underlying42 Tryd.underlying5 Tryd.underlying9 (Kd.own_of_R HO_8.out)
        go_wp2
        go_ret
        exact ⟨by first | rfl | (simp [errW_none, errW_some] <;> rfl) | (simp [*, errW_none, errW_some] <;> rfl), by repeat (first | (with_reducible first | exact HB.out | apply below_alloc | apply pw_below_drewN | apply below_drew1) | exact HB.out)⟩

end Go.Proofs.YtpbaolijacimjaaDoor.PLockTells

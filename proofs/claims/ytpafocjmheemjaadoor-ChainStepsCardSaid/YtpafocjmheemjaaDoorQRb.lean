import Derived.Test.YtpafocjmheemjaaDoorPDigestSumsx0
import Derived.Test.YtpafocjmheemjaaDoorQRa
namespace Go.Proofs.YtpafocjmheemjaaDoor.PDigestSums
open Go.RowKit Go.Proofs.YtpafocjmheemjaaDoorW.PrintWords Go.Proofs.YtpafocjmheemjaaDoorW.PrintLast Go.Proofs.YtpafocjmheemjaaDoorW.PrintMore
attribute [local go_sem] max2_int min2_int max_two min_two max_three min_three max_four min_four   -- for this text's walks alone
set_option linter.unusedVariables false
set_option linter.unusedSimpArgs false

/-! ### demurralref03_Mix: function 62 -/
def demurralref03_Mix.l0 : Nat → List Int → ByteArray → List Int → Int → Int → Int → Int → Int → Int → Int → Int → Int → List Int → List Int → Option (List Int)
  | 0, _, _, _, _, _, _, _, _, _, _, _, _, _, _ => none
  | k + 1, x1, x2, x7, x8, x9, x10, x11, x12, x13, x14, x15, x16, x183000, x183001 => if x16 < 64 then ((demurralref03_word.f x7 x2 x16).bind fun t205 => (if x7.length < 35184372088832 then ((some (x7 ++ [t205] : List Int)).bind fun y206 => ((demurralref03_ror.f x12 6).bind fun t209 => ((demurralref03_ror.f x12 11).bind fun t210 => ((demurralref03_ror.f x12 25).bind fun t211 => (if 0 ≤ x16 then (if x16 < (x183000.length : Int) then (if x16 < (y206.length : Int) then ((demurralref03_ror.f x8 2).bind fun t214 => ((demurralref03_ror.f x8 13).bind fun t215 => ((demurralref03_ror.f x8 22).bind fun t216 => (demurralref03_Mix.l0 k x1 x2 y206 ((((((((((x15 + (Go.bits .xor .u32 (Go.bits .xor .u32 t209 t210) t211)) % 4294967296) + (Go.bits .xor .u32 (Go.bits .and .u32 x12 x13) (Go.bits .and .u32 ((4294967295 - x12) % 4294967296) x14))) % 4294967296) + (rd x183000 x16)) % 4294967296) + (rd y206 x16)) % 4294967296) + (((Go.bits .xor .u32 (Go.bits .xor .u32 t214 t215) t216) + (Go.bits .xor .u32 (Go.bits .xor .u32 (Go.bits .and .u32 x8 x9) (Go.bits .and .u32 x8 x10)) (Go.bits .and .u32 x9 x10))) % 4294967296)) % 4294967296) x8 x9 x10 ((x11 + ((((((((x15 + (Go.bits .xor .u32 (Go.bits .xor .u32 t209 t210) t211)) % 4294967296) + (Go.bits .xor .u32 (Go.bits .and .u32 x12 x13) (Go.bits .and .u32 ((4294967295 - x12) % 4294967296) x14))) % 4294967296) + (rd x183000 x16)) % 4294967296) + (rd y206 x16)) % 4294967296)) % 4294967296) x12 x13 x14 (wrap64 (x16 + 1)) x183000 x183001)))) else (none)) else (none)) else (none)))))) else (none))) else (if 0 < (x1.length : Int) then (if 1 < (x1.length : Int) then (if 2 < (x1.length : Int) then (if 3 < (x1.length : Int) then (if 4 < (x1.length : Int) then (if 5 < (x1.length : Int) then (if 6 < (x1.length : Int) then (if 7 < (x1.length : Int) then (some (([((rd x1 0) + x8) % 4294967296, ((rd x1 1) + x9) % 4294967296, ((rd x1 2) + x10) % 4294967296, ((rd x1 3) + x11) % 4294967296, ((rd x1 4) + x12) % 4294967296, ((rd x1 5) + x13) % 4294967296, ((rd x1 6) + x14) % 4294967296, ((rd x1 7) + x15) % 4294967296] : List Int))) else (none)) else (none)) else (none)) else (none)) else (none)) else (none)) else (none)) else (none))
def demurralref03_Mix.f (k : Nat) (l0_0 : List Int) (l0_1 : List Int) (l1 : List Int) (a2 : ByteArray) : Option (List Int) := if 0 < (l1.length : Int) then (if 1 < (l1.length : Int) then (if 2 < (l1.length : Int) then (if 3 < (l1.length : Int) then (if 4 < (l1.length : Int) then (if 5 < (l1.length : Int) then (if 6 < (l1.length : Int) then (if 7 < (l1.length : Int) then (demurralref03_Mix.l0 k l1 a2 (([] : List Int)) (rd l1 0) (rd l1 1) (rd l1 2) (rd l1 3) (rd l1 4) (rd l1 5) (rd l1 6) (rd l1 7) 0 l0_0 l0_1) else (none)) else (none)) else (none)) else (none)) else (none)) else (none)) else (none)) else (none)
theorem demurralref03_Mix.mono_l : ∀ k, (∀ y0 y1 y2 y3 y4 y5 y6 y7 y8 y9 y10 y11 y12 y13, LeO (demurralref03_Mix.l0 k y0 y1 y2 y3 y4 y5 y6 y7 y8 y9 y10 y11 y12 y13) (demurralref03_Mix.l0 (k + 1) y0 y1 y2 y3 y4 y5 y6 y7 y8 y9 y10 y11 y12 y13))
  | 0 => fun _ _ _ _ _ _ _ _ _ _ _ _ _ _ r h => by simp [demurralref03_Mix.l0] at h
  | k + 1 => by
    have ih0 := demurralref03_Mix.mono_l k
    · intro y0 y1 y2 y3 y4 y5 y6 y7 y8 y9 y10 y11 y12 y13
      unfold demurralref03_Mix.l0
      repeat' first
      | (with_reducible exact ih0 _ _ _ _ _ _ _ _ _ _ _ _ _ _)
      | (with_reducible exact LeO.refl _)
      | (with_reducible exact LeO.none _)
      | (with_reducible refine LeO.ite ?_ ?_)
      | (with_reducible refine LeO.bind ?_ (fun _ => ?_))
      | exact ih0 _ _ _ _ _ _ _ _ _ _ _ _ _ _
      | exact LeO.none _
      | refine LeO.ite ?_ ?_
      | refine LeO.bind ?_ (fun _ => ?_)
theorem demurralref03_Mix.mono : ∀ a0 a1 a2 a3 k, LeO (demurralref03_Mix.f k a0 a1 a2 a3) (demurralref03_Mix.f (k + 1) a0 a1 a2 a3) := by
  intro a0 a1 a2 a3 k
  have ih0 := demurralref03_Mix.mono_l k
  unfold demurralref03_Mix.f
  repeat' first
      | (with_reducible exact ih0 _ _ _ _ _ _ _ _ _ _ _ _ _ _)
      | (with_reducible exact LeO.refl _)
      | (with_reducible exact LeO.none _)
      | (with_reducible refine LeO.ite ?_ ?_)
      | (with_reducible refine LeO.bind ?_ (fun _ => ?_))
      | exact ih0 _ _ _ _ _ _ _ _ _ _ _ _ _ _
      | exact LeO.none _
      | refine LeO.ite ?_ ?_
      | refine LeO.bind ?_ (fun _ => ?_)
def demurralref03_Mix.T14 : Bool × List (List Nat × List Nat) := (true, [([], []), ([], []), ([1], [1]), ([], []), ([3, 2], [3]), ([2, 4], [2, 4]), ([], []), ([6, 4], [6]), ([5, 7], [5, 7]), ([0, 8], [0, 8]), ([], []), ([], []), ([10, 11], [10, 11]), ([], []), ([13], [13]), ([], []), ([14, 15], [14, 15]), ([12, 16], [12, 16]), ([9, 17], [9, 17]), ([], []), ([19], [19]), ([], []), ([20, 21], [20, 21]), ([22], [22]), ([18, 23], [18, 23]), ([], []), ([], []), ([25, 26], [25, 26]), ([27], [27]), ([24, 28], [24, 28]), ([29, 7, 0, 1, 2, 3, 4, 5, 6, 7, 8, 9, 10, 11, 12, 13, 14, 15, 16, 17, 18, 19, 20, 21, 22, 23, 24, 25, 26, 27, 28, 29], [29])])
def demurralref03_Mix.B14 : List Nat := [0, 0, 2, 0, 14, 30, 0, 94, 254, 511, 0, 0, 3072, 0, 8192, 0, 57344, 130048, 262143, 0, 524288, 0, 3670016, 7864320, 16777215, 0, 0, 100663296, 234881024, 536870911, 1073741823]
theorem demurralref03_Mix.tab14 : rtab .any (opsOf Tryd.f62 14) = demurralref03_Mix.T14 := by kernel_rfl
theorem demurralref03_Mix.bits14 : waitsOk demurralref03_Mix.T14.2 demurralref03_Mix.B14 = true := by kernel_rfl
def demurralref03_Mix.T24 : Bool × List (List Nat × List Nat) := (true, [([], []), ([0], [0]), ([1], [1]), ([], []), ([2, 3], [2, 3]), ([], []), ([5], [5]), ([6], [6]), ([], []), ([7, 8], [7, 8]), ([], []), ([10], [10]), ([11], [11]), ([], []), ([12, 13], [12, 13]), ([], []), ([15], [15]), ([16], [16]), ([], []), ([17, 18], [17, 18]), ([], []), ([20], [20]), ([21], [21]), ([], []), ([22, 23], [22, 23]), ([], []), ([25], [25]), ([26], [26]), ([], []), ([27, 28], [27, 28]), ([], []), ([30], [30]), ([31], [31]), ([], []), ([32, 33], [32, 33]), ([], []), ([35], [35]), ([36], [36]), ([], []), ([37, 38], [37, 38]), ([4, 9, 14, 19, 24, 29, 34, 39], [4, 9, 14, 19, 24, 29, 34, 39]), ([40, 0, 1, 2, 3, 4, 5, 6, 7, 8, 9, 10, 11, 12, 13, 14, 15, 16, 17, 18, 19, 20, 21, 22, 23, 24, 25, 26, 27, 28, 29, 30, 31, 32, 33, 34, 35, 36, 37, 38, 39, 40], [40])])
def demurralref03_Mix.B24 : List Nat := [0, 1, 3, 0, 15, 0, 32, 96, 0, 480, 0, 1024, 3072, 0, 15360, 0, 32768, 98304, 0, 491520, 0, 1048576, 3145728, 0, 15728640, 0, 33554432, 100663296, 0, 503316480, 0, 1073741824, 3221225472, 0, 16106127360, 0, 34359738368, 103079215104, 0, 515396075520, 1099511627775, 2199023255551]
theorem demurralref03_Mix.tab24 : rtab .any (opsOf Tryd.f62 24) = demurralref03_Mix.T24 := by kernel_rfl
theorem demurralref03_Mix.bits24 : waitsOk demurralref03_Mix.T24.2 demurralref03_Mix.B24 = true := by kernel_rfl
set_option maxHeartbeats 8000000 in
set_option maxRecDepth 100000 in
theorem demurralref03_Mix.calls (k : Nat) (A0_0 : Option Addr) (c0_0 : Nat) (l0_0 : List Int) (A0_1 : Option Addr) (c0_1 : Nat) (l0_1 : List Int) (A1 : Option Addr) (c1 : Nat) (l1 : List Int) (a2 : ByteArray) (r : List Int) (w : World) (hr0_0 : Kd.C (Kd.int .u32) w A0_0 l0_0.length l0_0) (hc0_0 : l0_0.length ≤ c0_0) (hr0_1 : Kd.C (Kd.int .u32) w A0_1 l0_1.length l0_1) (hc0_1 : l0_1.length ≤ c0_1) (hr1 : Kd.C (Kd.int .u32) w A1 l1.length l1) (hc1 : l1.length ≤ c1) (h : demurralref03_Mix.f k l0_0 l0_1 l1 a2 = some r) :
    Calls Tryd.prog 62 #[.agg #[.slice A0_0 l0_0.length c0_0, .slice A0_1 l0_1.length c0_1], .slice A1 l1.length c1, .string a2] w fun e w' => ∃ v0_ : Value, e = .returned (v0_) ∧ Kd.R (Kd.int .u32) 91 w' w.heap.size (fun _ => True) v0_ r ∧ Below w.heap.size w w' := by
  have hu37 := Tryd.underlying37
  have HR0_0 := Aside0.mk hr0_0
  have HC0_0 := Aside0.mk hc0_0
  clear hr0_0 hc0_0
  have HR0_1 := Aside0.mk hr0_1
  have HC0_1 := Aside0.mk hc0_1
  clear hr0_1 hc0_1
  have HR1 := Aside0.mk hr1
  have HC1 := Aside0.mk hc1
  clear hr1 hc1
  have HB := Aside0.mk (Below.refl w.heap.size w)
  have H : (if 0 < (l1.length : Int) then (if 1 < (l1.length : Int) then (if 2 < (l1.length : Int) then (if 3 < (l1.length : Int) then (if 4 < (l1.length : Int) then (if 5 < (l1.length : Int) then (if 6 < (l1.length : Int) then (if 7 < (l1.length : Int) then (demurralref03_Mix.l0 k l1 a2 (([] : List Int)) (rd l1 0) (rd l1 1) (rd l1 2) (rd l1 3) (rd l1 4) (rd l1 5) (rd l1 6) (rd l1 7) 0 l0_0 l0_1) else (none)) else (none)) else (none)) else (none)) else (none)) else (none)) else (none)) else (none)) = some r := h
  clear h
  obtain ⟨y183, hy183⟩ : ∃ y_ : List Int, y_ = (([] : List Int)) := ⟨_, rfl⟩
  replace H : (if 0 < (l1.length : Int) then (if 1 < (l1.length : Int) then (if 2 < (l1.length : Int) then (if 3 < (l1.length : Int) then (if 4 < (l1.length : Int) then (if 5 < (l1.length : Int) then (if 6 < (l1.length : Int) then (if 7 < (l1.length : Int) then (demurralref03_Mix.l0 k l1 a2 y183 (rd l1 0) (rd l1 1) (rd l1 2) (rd l1 3) (rd l1 4) (rd l1 5) (rd l1 6) (rd l1 7) 0 l0_0 l0_1) else (none)) else (none)) else (none)) else (none)) else (none)) else (none)) else (none)) else (none)) = some r := by first | (rw [hy183]; with_reducible exact H) | (have H2_ := (Option.bind_some _ _).symm.trans H; rw [hy183]; with_reducible exact H2_) | (have H2_ := (Option.bind_some _ _).symm.trans H; with_reducible exact H2_) | with_reducible exact H | (rw [hy183]; exact H) | exact H
  have Ny183 := Aside0.mk hy183
  clear hy183
  by_cases c4 : 0 < (l1.length : Int)
  · rw [if_pos c4] at H
    have c4b0 : decide (0 < (l1.length : Int)) = true := decide_eq_true c4
    have c4b1 : decide (0 < l1.length) = true := decide_eq_true (by omega)
    clear c4
    by_cases c5 : 1 < (l1.length : Int)
    · rw [if_pos c5] at H
      have c5b0 : decide (1 < (l1.length : Int)) = true := decide_eq_true c5
      have c5b1 : decide (1 < l1.length) = true := decide_eq_true (by omega)
      clear c5
      by_cases c6 : 2 < (l1.length : Int)
      · rw [if_pos c6] at H
        have c6b0 : decide (2 < (l1.length : Int)) = true := decide_eq_true c6
        have c6b1 : decide (2 < l1.length) = true := decide_eq_true (by omega)
        clear c6
        by_cases c7 : 3 < (l1.length : Int)
        · rw [if_pos c7] at H
          have c7b0 : decide (3 < (l1.length : Int)) = true := decide_eq_true c7
          have c7b1 : decide (3 < l1.length) = true := decide_eq_true (by omega)
          clear c7
          by_cases c8 : 4 < (l1.length : Int)
          · rw [if_pos c8] at H
            have c8b0 : decide (4 < (l1.length : Int)) = true := decide_eq_true c8
            have c8b1 : decide (4 < l1.length) = true := decide_eq_true (by omega)
            clear c8
            by_cases c9 : 5 < (l1.length : Int)
            · rw [if_pos c9] at H
              have c9b0 : decide (5 < (l1.length : Int)) = true := decide_eq_true c9
              have c9b1 : decide (5 < l1.length) = true := decide_eq_true (by omega)
              clear c9
              by_cases c10 : 6 < (l1.length : Int)
              · rw [if_pos c10] at H
                have c10b0 : decide (6 < (l1.length : Int)) = true := decide_eq_true c10
                have c10b1 : decide (6 < l1.length) = true := decide_eq_true (by omega)
                clear c10
                by_cases c11 : 7 < (l1.length : Int)
                · rw [if_pos c11] at H
                  have c11b0 : decide (7 < (l1.length : Int)) = true := decide_eq_true c11
                  have c11b1 : decide (7 < l1.length) = true := decide_eq_true (by omega)
                  clear c11
                  have H' := Aside0.mk H
                  clear H
                  go_enter Tryd.func62, Tryd.ntmps62
                  go_wp2_with (first | ((with_reducible refine gate_dst (N := 3) rfl ?_); refine box_event ?hg (N := 3) ?hd (cs := #[.slice A0_0 l0_0.length c0_0, .slice A0_1 l0_1.length c0_1]) (t := 37) ?hr ?_; (case hd => rfl); (case hg => rfl); (case hr => first | (go_simp; done) | (go_simp; rfl)); intro gb182 hg w12 hbox hb; have n0_ := Aside0.mk (below_step (by repeat (first | (with_reducible first | exact HB.out | apply below_alloc | apply pw_below_drewN | apply below_drew1) | exact HB.out)) hb); have n1_ := Aside0.mk (hbox); have n2_ := Aside0.mk ((by rw [hg]; exact (below_size (by repeat (first | (with_reducible first | exact HB.out | apply below_alloc | apply pw_below_drewN | apply below_drew1) | exact HB.out))) : w.heap.size ≤ gb182)); have n3_ := Aside0.mk ((by rw [hg]; exact (below_size (by repeat (first | (with_reducible first | exact HB.out | apply below_alloc | apply pw_below_drewN | apply below_drew1) | exact HB.out))) : w.heap.size ≤ gb182)); clear HB; have HB := n0_; have BK182 := n1_; have GW182 := n2_; have GE182 := n3_; clear n0_ n1_ n2_ n3_; clear hb hbox hg) | ((with_reducible refine gate_dst (N := 19) rfl ?_); refine Kd.R_lit (Kd.int .u32) _ 91 ?hg (N := 19) ?hd (xs := ([] : List Int)) (inner := []) (ok := fun _ => True) (okp := fun _ => True) ?hr ?hp (fun _ hk => hk) trivial (Below.refl _ _) (Nat.le_refl _) (by simp) ?_; (case hd => rfl); (case hg => rfl); (case hr => first | (go_simp; done) | (go_simp; rfl)); (case hp => exact (Reps.none _ _)); intro v184 w13 ho14 hb hg_ hnew_; clear hg_ hnew_; (first | rw [← Ny183.out] at ho14 | (simp only [Int.reduceToNat] at ho14; rw [← Ny183.out] at ho14)); have n0_ := Aside0.mk (Kd.R_lower ho14 (below_size (by repeat (first | (with_reducible first | exact HB.out | apply below_alloc | apply pw_below_drewN | apply below_drew1 | refine below_set ?_ GE182.out) | exact HB.out)))); have n1_ := Aside0.mk (blk_below (g := gb182) (o := .cells #[.slice A0_0 l0_0.length c0_0, .slice A0_1 l0_1.length c0_1] 37 (0, 0)) (by (with_reducible repeat (first | refine blk_drewN ?_ _ | refine blk_drew ?_ | refine blk_alloc ?_ _)); exact BK182.out) hb); have n2_ := Aside0.mk (below_step (by repeat (first | (with_reducible first | exact HB.out | apply below_alloc | apply pw_below_drewN | apply below_drew1 | refine below_set ?_ GE182.out) | exact HB.out)) hb); clear BK182; clear HB; have HO185 := n0_; have BK182 := n1_; have HB := n2_; clear n0_ n1_ n2_; clear hb ho14; have p186 : 0 ≤ (0 : Int) := (by omega); have q186 : 0 < (l1.length : Int) := of_decide_eq_true (by first | (with_reducible assumption) | assumption); obtain ⟨ad186, e186, hx186_0⟩ := Kd.at_int HR1.out 0 p186 q186; cases e186; have qi186 : (0 < l1.length) = True := eq_true (by omega); (try rw [show ((0 : Int)).toNat = 0 from rfl] at hx186_0); (try rw [Addr.add_zero'] at hx186_0); replace hx186_0 := (HB.out.cell (World.block_lt_of_cell? w _ hx186_0)).trans hx186_0; replace p186 := eq_true p186; replace q186 := eq_true q186; have p187 : 0 ≤ (1 : Int) := (by omega); have q187 : 1 < (l1.length : Int) := of_decide_eq_true (by first | (with_reducible assumption) | assumption); obtain ⟨ad187, e187, hx187_0⟩ := Kd.at_int HR1.out 1 p187 q187; obtain rfl : ad186 = ad187 := (by injection e187); (try simp only [show (1 : Int).toNat = 1 from rfl, Nat.reduceMul, Nat.reduceEqDiff, Go.Addr.add, ↓reduceIte] at hx187_0); have qi187 : (1 < l1.length) = True := eq_true (by omega); (try rw [show ((1 : Int)).toNat = 1 from rfl] at hx187_0); replace hx187_0 := (HB.out.cell (World.block_lt_of_cell? w _ hx187_0)).trans hx187_0; replace p187 := eq_true p187; replace q187 := eq_true q187; have p188 : 0 ≤ (2 : Int) := (by omega); have q188 : 2 < (l1.length : Int) := of_decide_eq_true (by first | (with_reducible assumption) | assumption); obtain ⟨ad188, e188, hx188_0⟩ := Kd.at_int HR1.out 2 p188 q188; obtain rfl : ad186 = ad188 := (by injection e188); (try simp only [show (2 : Int).toNat = 2 from rfl, Nat.reduceMul, Nat.reduceEqDiff, Go.Addr.add, ↓reduceIte] at hx188_0); have qi188 : (2 < l1.length) = True := eq_true (by omega); (try rw [show ((2 : Int)).toNat = 2 from rfl] at hx188_0); replace hx188_0 := (HB.out.cell (World.block_lt_of_cell? w _ hx188_0)).trans hx188_0; replace p188 := eq_true p188; replace q188 := eq_true q188; have p189 : 0 ≤ (3 : Int) := (by omega); have q189 : 3 < (l1.length : Int) := of_decide_eq_true (by first | (with_reducible assumption) | assumption); obtain ⟨ad189, e189, hx189_0⟩ := Kd.at_int HR1.out 3 p189 q189; obtain rfl : ad186 = ad189 := (by injection e189); (try simp only [show (3 : Int).toNat = 3 from rfl, Nat.reduceMul, Nat.reduceEqDiff, Go.Addr.add, ↓reduceIte] at hx189_0); have qi189 : (3 < l1.length) = True := eq_true (by omega); (try rw [show ((3 : Int)).toNat = 3 from rfl] at hx189_0); replace hx189_0 := (HB.out.cell (World.block_lt_of_cell? w _ hx189_0)).trans hx189_0; replace p189 := eq_true p189; replace q189 := eq_true q189; have p190 : 0 ≤ (4 : Int) := (by omega); have q190 : 4 < (l1.length : Int) := of_decide_eq_true (by first | (with_reducible assumption) | assumption); obtain ⟨ad190, e190, hx190_0⟩ := Kd.at_int HR1.out 4 p190 q190; obtain rfl : ad186 = ad190 := (by injection e190); (try simp only [show (4 : Int).toNat = 4 from rfl, Nat.reduceMul, Nat.reduceEqDiff, Go.Addr.add, ↓reduceIte] at hx190_0); have qi190 : (4 < l1.length) = True := eq_true (by omega); (try rw [show ((4 : Int)).toNat = 4 from rfl] at hx190_0); replace hx190_0 := (HB.out.cell (World.block_lt_of_cell? w _ hx190_0)).trans hx190_0; replace p190 := eq_true p190; replace q190 := eq_true q190; have p191 : 0 ≤ (5 : Int) := (by omega); have q191 : 5 < (l1.length : Int) := of_decide_eq_true (by first | (with_reducible assumption) | assumption); obtain ⟨ad191, e191, hx191_0⟩ := Kd.at_int HR1.out 5 p191 q191; obtain rfl : ad186 = ad191 := (by injection e191); (try simp only [show (5 : Int).toNat = 5 from rfl, Nat.reduceMul, Nat.reduceEqDiff, Go.Addr.add, ↓reduceIte] at hx191_0); have qi191 : (5 < l1.length) = True := eq_true (by omega); (try rw [show ((5 : Int)).toNat = 5 from rfl] at hx191_0); replace hx191_0 := (HB.out.cell (World.block_lt_of_cell? w _ hx191_0)).trans hx191_0; replace p191 := eq_true p191; replace q191 := eq_true q191; have p192 : 0 ≤ (6 : Int) := (by omega); have q192 : 6 < (l1.length : Int) := of_decide_eq_true (by first | (with_reducible assumption) | assumption); obtain ⟨ad192, e192, hx192_0⟩ := Kd.at_int HR1.out 6 p192 q192; obtain rfl : ad186 = ad192 := (by injection e192); (try simp only [show (6 : Int).toNat = 6 from rfl, Nat.reduceMul, Nat.reduceEqDiff, Go.Addr.add, ↓reduceIte] at hx192_0); have qi192 : (6 < l1.length) = True := eq_true (by omega); (try rw [show ((6 : Int)).toNat = 6 from rfl] at hx192_0); replace hx192_0 := (HB.out.cell (World.block_lt_of_cell? w _ hx192_0)).trans hx192_0; replace p192 := eq_true p192; replace q192 := eq_true q192; have p193 : 0 ≤ (7 : Int) := (by omega); have q193 : 7 < (l1.length : Int) := of_decide_eq_true (by first | (with_reducible assumption) | assumption); obtain ⟨ad193, e193, hx193_0⟩ := Kd.at_int HR1.out 7 p193 q193; obtain rfl : ad186 = ad193 := (by injection e193); (try simp only [show (7 : Int).toNat = 7 from rfl, Nat.reduceMul, Nat.reduceEqDiff, Go.Addr.add, ↓reduceIte] at hx193_0); have qi193 : (7 < l1.length) = True := eq_true (by omega); (try rw [show ((7 : Int)).toNat = 7 from rfl] at hx193_0); replace hx193_0 := (HB.out.cell (World.block_lt_of_cell? w _ hx193_0)).trans hx193_0; replace p193 := eq_true p193; replace q193 := eq_true q193))
                  go_loopg [7, 8, 9, 10, 11, 12, 13, 14, 15, 16] k (fun kq v7 v8 v9 v10 v11 v12 v13 v14 v15 v16 w' => ∃ (x7_1 : List Int) (x8_1 : Int) (x9_1 : Int) (x10_1 : Int) (x11_1 : Int) (x12_1 : Int) (x13_1 : Int) (x14_1 : Int) (x15_1 : Int) (x16_1 : Int), v8 = .int .u32 x8_1 ∧ v9 = .int .u32 x9_1 ∧ v10 = .int .u32 x10_1 ∧ v11 = .int .u32 x11_1 ∧ v12 = .int .u32 x12_1 ∧ v13 = .int .u32 x13_1 ∧ v14 = .int .u32 x14_1 ∧ v15 = .int .u32 x15_1 ∧ v16 = .int .i64 x16_1 ∧ Aside0 (demurralref03_Mix.l0 kq l1 a2 x7_1 x8_1 x9_1 x10_1 x11_1 x12_1 x13_1 x14_1 x15_1 x16_1 l0_0 l0_1 = some r) ∧ Aside0 (kq ≤ k) ∧ Aside0 (Kd.R (Kd.int .u32) 91 w' w.heap.size (fun _ => True) v7 x7_1) ∧ Aside0 (w'.heap[gb182]? = some (.cells #[(.slice A0_0 l0_0.length c0_0), (.slice A0_1 l0_1.length c0_1)] 37 (0, 0))) ∧ Aside0 (Below w.heap.size w w'))
                  case atStart => exact ⟨(y183), (rd l1 0), (rd l1 1), (rd l1 2), (rd l1 3), (rd l1 4), (rd l1 5), (rd l1 6), (rd l1 7), (0), (by first | rfl | (simp; done) | (simp [*]; done)), (by first | rfl | (simp; done) | (simp [*]; done)), (by first | rfl | (simp; done) | (simp [*]; done)), (by first | rfl | (simp; done) | (simp [*]; done)), (by first | rfl | (simp; done) | (simp [*]; done)), (by first | rfl | (simp; done) | (simp [*]; done)), (by first | rfl | (simp; done) | (simp [*]; done)), (by first | rfl | (simp; done) | (simp [*]; done)), (by first | rfl | (simp; done) | (simp [*]; done)), H', ⟨Nat.le_refl _⟩, ⟨by (with_reducible repeat (first | apply Kd.R_alloc | apply Kd.R_drewN | apply Kd.R_drew)); exact HO185.out⟩, ⟨by (with_reducible repeat (first | refine blk_drewN ?_ _ | refine blk_drew ?_ | refine blk_alloc ?_ _)); exact BK182.out⟩, ⟨by repeat (first | (with_reducible first | exact HB.out | apply below_alloc | apply pw_below_drewN | apply below_drew1 | refine below_set ?_ GE182.out) | exact HB.out)⟩⟩
                  case round =>
                    clear H'
                    try clear c1
                    try clear p1
                    try clear q1
                    try clear hx1
                    try clear qi1
                    try clear p2
                    try clear c4
                    try clear c4b0
                    try clear c4b1
                    try clear c5
                    try clear c5b0
                    try clear c5b1
                    try clear c6
                    try clear c6b0
                    try clear c6b1
                    try clear c7
                    try clear c7b0
                    try clear c7b1
                    try clear c8
                    try clear c8b0
                    try clear c8b1
                    try clear c9
                    try clear c9b0
                    try clear c9b1
                    try clear c10
                    try clear c10b0
                    try clear c10b1
                    try clear c11
                    try clear c11b0
                    try clear c11b1
                    try clear hx186_0
                    try clear hx187_0
                    try clear hx188_0
                    try clear hx189_0
                    try clear hx190_0
                    try clear hx191_0
                    try clear hx192_0
                    try clear hx193_0
                    try clear p186
                    try clear p187
                    try clear p188
                    try clear p189
                    try clear p190
                    try clear p191
                    try clear p192
                    try clear p193
                    try clear q186
                    try clear q187
                    try clear q188
                    try clear q189
                    try clear q190
                    try clear q191
                    try clear q192
                    try clear q193
                    obtain ⟨x7_1, x8_1, x9_1, x10_1, x11_1, x12_1, x13_1, x14_1, x15_1, x16_1, rfl, rfl, rfl, rfl, rfl, rfl, rfl, rfl, rfl, HA, HK1, HO_7, BK182, HB⟩ := hrel
                    cases gk with
                    | zero => exact absurd HA.out (by simp [demurralref03_Mix.l0])
                    | succ k1 =>
                      have H := HA.out
                      clear HA
                      simp only [demurralref03_Mix.l0] at H
                      by_cases c15 : x16_1 < 64
                      · rw [if_pos c15] at H
                        have c15b0 : decide (x16_1 < 64) = true := decide_eq_true c15
                        clear c15
                        replace H := Option.bind_eq_some_iff.mp H
                        obtain ⟨t205, A160, H⟩ := H
                        replace H : (if x7_1.length < 35184372088832 then ((some (x7_1 ++ [t205] : List Int)).bind fun y206 => ((demurralref03_ror.f x12_1 6).bind fun t209 => ((demurralref03_ror.f x12_1 11).bind fun t210 => ((demurralref03_ror.f x12_1 25).bind fun t211 => (if 0 ≤ x16_1 then (if x16_1 < (l0_0.length : Int) then (if x16_1 < (y206.length : Int) then ((demurralref03_ror.f x8_1 2).bind fun t214 => ((demurralref03_ror.f x8_1 13).bind fun t215 => ((demurralref03_ror.f x8_1 22).bind fun t216 => (demurralref03_Mix.l0 k1 l1 a2 y206 ((((((((((x15_1 + (Go.bits .xor .u32 (Go.bits .xor .u32 t209 t210) t211)) % 4294967296) + (Go.bits .xor .u32 (Go.bits .and .u32 x12_1 x13_1) (Go.bits .and .u32 ((4294967295 - x12_1) % 4294967296) x14_1))) % 4294967296) + (rd l0_0 x16_1)) % 4294967296) + (rd y206 x16_1)) % 4294967296) + (((Go.bits .xor .u32 (Go.bits .xor .u32 t214 t215) t216) + (Go.bits .xor .u32 (Go.bits .xor .u32 (Go.bits .and .u32 x8_1 x9_1) (Go.bits .and .u32 x8_1 x10_1)) (Go.bits .and .u32 x9_1 x10_1))) % 4294967296)) % 4294967296) x8_1 x9_1 x10_1 ((x11_1 + ((((((((x15_1 + (Go.bits .xor .u32 (Go.bits .xor .u32 t209 t210) t211)) % 4294967296) + (Go.bits .xor .u32 (Go.bits .and .u32 x12_1 x13_1) (Go.bits .and .u32 ((4294967295 - x12_1) % 4294967296) x14_1))) % 4294967296) + (rd l0_0 x16_1)) % 4294967296) + (rd y206 x16_1)) % 4294967296)) % 4294967296) x12_1 x13_1 x14_1 (wrap64 (x16_1 + 1)) l0_0 l0_1)))) else (none)) else (none)) else (none)))))) else (none)) = some r := H
                        have A16 := Aside0.mk A160
                        clear A160
                        by_cases c17 : x7_1.length < 35184372088832
                        · rw [if_pos c17] at H
                          have LMc17 := Aside0.mk c17
                          clear c17
                          obtain ⟨y206, hy206⟩ : ∃ y_ : List Int, y_ = (x7_1 ++ [t205]) := ⟨_, rfl⟩
                          replace H : ((demurralref03_ror.f x12_1 6).bind fun t209 => ((demurralref03_ror.f x12_1 11).bind fun t210 => ((demurralref03_ror.f x12_1 25).bind fun t211 => (if 0 ≤ x16_1 then (if x16_1 < (l0_0.length : Int) then (if x16_1 < (y206.length : Int) then ((demurralref03_ror.f x8_1 2).bind fun t214 => ((demurralref03_ror.f x8_1 13).bind fun t215 => ((demurralref03_ror.f x8_1 22).bind fun t216 => (demurralref03_Mix.l0 k1 l1 a2 y206 ((((((((((x15_1 + (Go.bits .xor .u32 (Go.bits .xor .u32 t209 t210) t211)) % 4294967296) + (Go.bits .xor .u32 (Go.bits .and .u32 x12_1 x13_1) (Go.bits .and .u32 ((4294967295 - x12_1) % 4294967296) x14_1))) % 4294967296) + (rd l0_0 x16_1)) % 4294967296) + (rd y206 x16_1)) % 4294967296) + (((Go.bits .xor .u32 (Go.bits .xor .u32 t214 t215) t216) + (Go.bits .xor .u32 (Go.bits .xor .u32 (Go.bits .and .u32 x8_1 x9_1) (Go.bits .and .u32 x8_1 x10_1)) (Go.bits .and .u32 x9_1 x10_1))) % 4294967296)) % 4294967296) x8_1 x9_1 x10_1 ((x11_1 + ((((((((x15_1 + (Go.bits .xor .u32 (Go.bits .xor .u32 t209 t210) t211)) % 4294967296) + (Go.bits .xor .u32 (Go.bits .and .u32 x12_1 x13_1) (Go.bits .and .u32 ((4294967295 - x12_1) % 4294967296) x14_1))) % 4294967296) + (rd l0_0 x16_1)) % 4294967296) + (rd y206 x16_1)) % 4294967296)) % 4294967296) x12_1 x13_1 x14_1 (wrap64 (x16_1 + 1)) l0_0 l0_1)))) else (none)) else (none)) else (none))))) = some r := by first | (rw [hy206]; with_reducible exact H) | (have H2_ := (Option.bind_some _ _).symm.trans H; rw [hy206]; with_reducible exact H2_) | (have H2_ := (Option.bind_some _ _).symm.trans H; with_reducible exact H2_) | with_reducible exact H | (rw [hy206]; exact H) | exact H
                          have Ny206 := Aside0.mk hy206
                          clear hy206
                          replace H := Option.bind_eq_some_iff.mp H
                          obtain ⟨t209, A180, H⟩ := H
                          replace H : ((demurralref03_ror.f x12_1 11).bind fun t210 => ((demurralref03_ror.f x12_1 25).bind fun t211 => (if 0 ≤ x16_1 then (if x16_1 < (l0_0.length : Int) then (if x16_1 < (y206.length : Int) then ((demurralref03_ror.f x8_1 2).bind fun t214 => ((demurralref03_ror.f x8_1 13).bind fun t215 => ((demurralref03_ror.f x8_1 22).bind fun t216 => (demurralref03_Mix.l0 k1 l1 a2 y206 ((((((((((x15_1 + (Go.bits .xor .u32 (Go.bits .xor .u32 t209 t210) t211)) % 4294967296) + (Go.bits .xor .u32 (Go.bits .and .u32 x12_1 x13_1) (Go.bits .and .u32 ((4294967295 - x12_1) % 4294967296) x14_1))) % 4294967296) + (rd l0_0 x16_1)) % 4294967296) + (rd y206 x16_1)) % 4294967296) + (((Go.bits .xor .u32 (Go.bits .xor .u32 t214 t215) t216) + (Go.bits .xor .u32 (Go.bits .xor .u32 (Go.bits .and .u32 x8_1 x9_1) (Go.bits .and .u32 x8_1 x10_1)) (Go.bits .and .u32 x9_1 x10_1))) % 4294967296)) % 4294967296) x8_1 x9_1 x10_1 ((x11_1 + ((((((((x15_1 + (Go.bits .xor .u32 (Go.bits .xor .u32 t209 t210) t211)) % 4294967296) + (Go.bits .xor .u32 (Go.bits .and .u32 x12_1 x13_1) (Go.bits .and .u32 ((4294967295 - x12_1) % 4294967296) x14_1))) % 4294967296) + (rd l0_0 x16_1)) % 4294967296) + (rd y206 x16_1)) % 4294967296)) % 4294967296) x12_1 x13_1 x14_1 (wrap64 (x16_1 + 1)) l0_0 l0_1)))) else (none)) else (none)) else (none)))) = some r := H
                          have A18 := Aside0.mk A180
                          clear A180
                          replace H := Option.bind_eq_some_iff.mp H
                          obtain ⟨t210, A190, H⟩ := H
                          replace H : ((demurralref03_ror.f x12_1 25).bind fun t211 => (if 0 ≤ x16_1 then (if x16_1 < (l0_0.length : Int) then (if x16_1 < (y206.length : Int) then ((demurralref03_ror.f x8_1 2).bind fun t214 => ((demurralref03_ror.f x8_1 13).bind fun t215 => ((demurralref03_ror.f x8_1 22).bind fun t216 => (demurralref03_Mix.l0 k1 l1 a2 y206 ((((((((((x15_1 + (Go.bits .xor .u32 (Go.bits .xor .u32 t209 t210) t211)) % 4294967296) + (Go.bits .xor .u32 (Go.bits .and .u32 x12_1 x13_1) (Go.bits .and .u32 ((4294967295 - x12_1) % 4294967296) x14_1))) % 4294967296) + (rd l0_0 x16_1)) % 4294967296) + (rd y206 x16_1)) % 4294967296) + (((Go.bits .xor .u32 (Go.bits .xor .u32 t214 t215) t216) + (Go.bits .xor .u32 (Go.bits .xor .u32 (Go.bits .and .u32 x8_1 x9_1) (Go.bits .and .u32 x8_1 x10_1)) (Go.bits .and .u32 x9_1 x10_1))) % 4294967296)) % 4294967296) x8_1 x9_1 x10_1 ((x11_1 + ((((((((x15_1 + (Go.bits .xor .u32 (Go.bits .xor .u32 t209 t210) t211)) % 4294967296) + (Go.bits .xor .u32 (Go.bits .and .u32 x12_1 x13_1) (Go.bits .and .u32 ((4294967295 - x12_1) % 4294967296) x14_1))) % 4294967296) + (rd l0_0 x16_1)) % 4294967296) + (rd y206 x16_1)) % 4294967296)) % 4294967296) x12_1 x13_1 x14_1 (wrap64 (x16_1 + 1)) l0_0 l0_1)))) else (none)) else (none)) else (none))) = some r := H
                          have A19 := Aside0.mk A190
                          clear A190
                          replace H := Option.bind_eq_some_iff.mp H
                          obtain ⟨t211, A200, H⟩ := H
                          replace H : (if 0 ≤ x16_1 then (if x16_1 < (l0_0.length : Int) then (if x16_1 < (y206.length : Int) then ((demurralref03_ror.f x8_1 2).bind fun t214 => ((demurralref03_ror.f x8_1 13).bind fun t215 => ((demurralref03_ror.f x8_1 22).bind fun t216 => (demurralref03_Mix.l0 k1 l1 a2 y206 ((((((((((x15_1 + (Go.bits .xor .u32 (Go.bits .xor .u32 t209 t210) t211)) % 4294967296) + (Go.bits .xor .u32 (Go.bits .and .u32 x12_1 x13_1) (Go.bits .and .u32 ((4294967295 - x12_1) % 4294967296) x14_1))) % 4294967296) + (rd l0_0 x16_1)) % 4294967296) + (rd y206 x16_1)) % 4294967296) + (((Go.bits .xor .u32 (Go.bits .xor .u32 t214 t215) t216) + (Go.bits .xor .u32 (Go.bits .xor .u32 (Go.bits .and .u32 x8_1 x9_1) (Go.bits .and .u32 x8_1 x10_1)) (Go.bits .and .u32 x9_1 x10_1))) % 4294967296)) % 4294967296) x8_1 x9_1 x10_1 ((x11_1 + ((((((((x15_1 + (Go.bits .xor .u32 (Go.bits .xor .u32 t209 t210) t211)) % 4294967296) + (Go.bits .xor .u32 (Go.bits .and .u32 x12_1 x13_1) (Go.bits .and .u32 ((4294967295 - x12_1) % 4294967296) x14_1))) % 4294967296) + (rd l0_0 x16_1)) % 4294967296) + (rd y206 x16_1)) % 4294967296)) % 4294967296) x12_1 x13_1 x14_1 (wrap64 (x16_1 + 1)) l0_0 l0_1)))) else (none)) else (none)) else (none)) = some r := H
                          have A20 := Aside0.mk A200
                          clear A200
                          by_cases c21 : 0 ≤ x16_1
                          · rw [if_pos c21] at H
                            have c21b0 : decide (0 ≤ x16_1) = true := decide_eq_true c21
                            clear c21
                            by_cases c22 : x16_1 < (l0_0.length : Int)
                            · rw [if_pos c22] at H
                              have c22b0 : decide (x16_1 < (l0_0.length : Int)) = true := decide_eq_true c22
                              clear c22
                              by_cases c23 : x16_1 < (y206.length : Int)
                              · rw [if_pos c23] at H
                                have c23b0 : decide (x16_1 < (y206.length : Int)) = true := decide_eq_true c23
                                clear c23
                                replace H := Option.bind_eq_some_iff.mp H
                                obtain ⟨t214, A240, H⟩ := H
                                replace H : ((demurralref03_ror.f x8_1 13).bind fun t215 => ((demurralref03_ror.f x8_1 22).bind fun t216 => (demurralref03_Mix.l0 k1 l1 a2 y206 ((((((((((x15_1 + (Go.bits .xor .u32 (Go.bits .xor .u32 t209 t210) t211)) % 4294967296) + (Go.bits .xor .u32 (Go.bits .and .u32 x12_1 x13_1) (Go.bits .and .u32 ((4294967295 - x12_1) % 4294967296) x14_1))) % 4294967296) + (rd l0_0 x16_1)) % 4294967296) + (rd y206 x16_1)) % 4294967296) + (((Go.bits .xor .u32 (Go.bits .xor .u32 t214 t215) t216) + (Go.bits .xor .u32 (Go.bits .xor .u32 (Go.bits .and .u32 x8_1 x9_1) (Go.bits .and .u32 x8_1 x10_1)) (Go.bits .and .u32 x9_1 x10_1))) % 4294967296)) % 4294967296) x8_1 x9_1 x10_1 ((x11_1 + ((((((((x15_1 + (Go.bits .xor .u32 (Go.bits .xor .u32 t209 t210) t211)) % 4294967296) + (Go.bits .xor .u32 (Go.bits .and .u32 x12_1 x13_1) (Go.bits .and .u32 ((4294967295 - x12_1) % 4294967296) x14_1))) % 4294967296) + (rd l0_0 x16_1)) % 4294967296) + (rd y206 x16_1)) % 4294967296)) % 4294967296) x12_1 x13_1 x14_1 (wrap64 (x16_1 + 1)) l0_0 l0_1))) = some r := H
                                have A24 := Aside0.mk A240
                                clear A240
                                replace H := Option.bind_eq_some_iff.mp H
                                obtain ⟨t215, A250, H⟩ := H
                                replace H : ((demurralref03_ror.f x8_1 22).bind fun t216 => (demurralref03_Mix.l0 k1 l1 a2 y206 ((((((((((x15_1 + (Go.bits .xor .u32 (Go.bits .xor .u32 t209 t210) t211)) % 4294967296) + (Go.bits .xor .u32 (Go.bits .and .u32 x12_1 x13_1) (Go.bits .and .u32 ((4294967295 - x12_1) % 4294967296) x14_1))) % 4294967296) + (rd l0_0 x16_1)) % 4294967296) + (rd y206 x16_1)) % 4294967296) + (((Go.bits .xor .u32 (Go.bits .xor .u32 t214 t215) t216) + (Go.bits .xor .u32 (Go.bits .xor .u32 (Go.bits .and .u32 x8_1 x9_1) (Go.bits .and .u32 x8_1 x10_1)) (Go.bits .and .u32 x9_1 x10_1))) % 4294967296)) % 4294967296) x8_1 x9_1 x10_1 ((x11_1 + ((((((((x15_1 + (Go.bits .xor .u32 (Go.bits .xor .u32 t209 t210) t211)) % 4294967296) + (Go.bits .xor .u32 (Go.bits .and .u32 x12_1 x13_1) (Go.bits .and .u32 ((4294967295 - x12_1) % 4294967296) x14_1))) % 4294967296) + (rd l0_0 x16_1)) % 4294967296) + (rd y206 x16_1)) % 4294967296)) % 4294967296) x12_1 x13_1 x14_1 (wrap64 (x16_1 + 1)) l0_0 l0_1)) = some r := H
                                have A25 := Aside0.mk A250
                                clear A250
                                replace H := Option.bind_eq_some_iff.mp H
                                obtain ⟨t216, A260, H⟩ := H
                                replace H : (demurralref03_Mix.l0 k1 l1 a2 y206 ((((((((((x15_1 + (Go.bits .xor .u32 (Go.bits .xor .u32 t209 t210) t211)) % 4294967296) + (Go.bits .xor .u32 (Go.bits .and .u32 x12_1 x13_1) (Go.bits .and .u32 ((4294967295 - x12_1) % 4294967296) x14_1))) % 4294967296) + (rd l0_0 x16_1)) % 4294967296) + (rd y206 x16_1)) % 4294967296) + (((Go.bits .xor .u32 (Go.bits .xor .u32 t214 t215) t216) + (Go.bits .xor .u32 (Go.bits .xor .u32 (Go.bits .and .u32 x8_1 x9_1) (Go.bits .and .u32 x8_1 x10_1)) (Go.bits .and .u32 x9_1 x10_1))) % 4294967296)) % 4294967296) x8_1 x9_1 x10_1 ((x11_1 + ((((((((x15_1 + (Go.bits .xor .u32 (Go.bits .xor .u32 t209 t210) t211)) % 4294967296) + (Go.bits .xor .u32 (Go.bits .and .u32 x12_1 x13_1) (Go.bits .and .u32 ((4294967295 - x12_1) % 4294967296) x14_1))) % 4294967296) + (rd l0_0 x16_1)) % 4294967296) + (rd y206 x16_1)) % 4294967296)) % 4294967296) x12_1 x13_1 x14_1 (wrap64 (x16_1 + 1)) l0_0 l0_1) = some r := H
                                have A26 := Aside0.mk A260
                                clear A260
                                have H' := Aside0.mk H
                                clear H
                                obtain ⟨Ao27, co27, eo27⟩ := Kd.R_slice HO_7.out
                                subst eo27
                                try go_wp2_with (first | ((with_reducible refine gate_callee (f := 89) rfl ?_); refine goesL_ (some 52) rfl rfl Tryd.func89 (by kernel_rfl) rfl #[.slice Ao27 x7_1.length co27, .string a2, .int .i64 x16_1] rfl (by (try simp only [List.map_toArray, List.map_cons, List.map_nil]); first | done | rfl | (simp only [List.length_drop, List.length_take]; rfl)) ?_; (with_reducible refine (demurralref03_word.calls _ _ x7_1 a2 x16_1 t205 _ ?side1 ?side2 A16.out).mono ?_); (case side1 => repeat (first | exact (Kd.R_reads' HO_7.out).2.2 | (with_reducible refine Kd.C_alloc ?_ _) | (with_reducible refine Kd.C_drewN ?_ _) | (with_reducible refine Kd.C_drew ?_))); (case side2 => exact (Kd.R_reads' HO_7.out).2.1); rintro e w28 ⟨rfl, hb⟩; refine ⟨_, rfl, ?_⟩; have n0_ := Aside0.mk (Kd.R_below (by (with_reducible repeat (first | apply Kd.R_alloc | apply Kd.R_drewN | apply Kd.R_drew)); exact HO_7.out) hb); have n1_ := Aside0.mk (blk_below (g := gb182) (o := .cells #[.slice A0_0 l0_0.length c0_0, .slice A0_1 l0_1.length c0_1] 37 (0, 0)) (by (with_reducible repeat (first | refine blk_drewN ?_ _ | refine blk_drew ?_ | refine blk_alloc ?_ _)); exact BK182.out) hb); have n2_ := Aside0.mk (below_step (by repeat (first | (with_reducible first | exact HB.out | apply below_alloc | apply pw_below_drewN | apply below_drew1 | refine below_set ?_ GE182.out) | exact HB.out)) hb); clear HO_7; clear BK182; clear HB; have HO_7 := n0_; have BK182 := n1_; have HB := n2_; clear n0_ n1_ n2_; (try clear hb); (try clear hb2); (try clear hk); (try clear hi)) | ((with_reducible refine gate_builtin (b := .append) (xs := #[.tmp 48, .tmp 53]) rfl ?_); at_builtin; refine Kd.R_append (Kd.int .u32) (w0 := w) w.heap.size rfl (.tmp 48) (.tmp 53) 22 91 (.int .u32 0) 4 rfl Tryd.underlying22 info91 rfl (by decide) (by omega) (.slice Ao27 x7_1.length co27) x7_1 t205 [.int .u32 t205] (fun _ => True) (fun _ => False) rfl rfl ?aP (fun _ hk => hk.elim) ?aF ?aO ?aB ?aS ?aL ?_; (case aP => exact rfl); (case aB => exact (by repeat (first | (with_reducible first | exact HB.out | apply below_alloc | apply pw_below_drewN | apply below_drew1 | refine below_set ?_ GE182.out) | exact HB.out))); (case aF => exact (fun _ _ => trivial)); (case aO => exact (by (with_reducible repeat (first | apply Kd.R_alloc | apply Kd.R_drewN | apply Kd.R_drew)); exact HO_7.out)); (case aS => exact (below_size (by repeat (first | (with_reducible first | exact HB.out | apply below_alloc | apply pw_below_drewN | apply below_drew1 | refine below_set ?_ GE182.out) | exact HB.out)))); (case aL => have := LMc17.out; omega); intro v207 w29 ho hb hg hat; rw [← Ny206.out] at ho; have n0_ := Aside0.mk (blk_grown (g := gb182) (o := .cells #[.slice A0_0 l0_0.length c0_0, .slice A0_1 l0_1.length c0_1] 37 (0, 0)) (by (with_reducible repeat (first | refine blk_drewN ?_ _ | refine blk_drew ?_ | refine blk_alloc ?_ _)); exact BK182.out) hg (Kd.R_ne HO_7.out BK182.out (by decide))); have n1_ := Aside0.mk (hb); have n2_ := Aside0.mk (ho); clear BK182; clear HB; clear HO_7; have BK182 := n0_; have HB := n1_; have HO208 := n2_; clear n0_ n1_ n2_; clear ho hb hg hat))
                                have n0_ := Aside0.mk (Kd.R_drew HO208.out)
                                have n1_ := Aside0.mk (blk_drew BK182.out)
                                have n2_ := Aside0.mk (below_drew1 HB.out)
                                clear HO208
                                clear BK182
                                clear HB
                                have HO208 := n0_
                                have BK182 := n1_
                                have HB := n2_
                                clear n0_ n1_ n2_
                                have p212 : 0 ≤ (x16_1 : Int) := of_decide_eq_true (by first | (with_reducible assumption) | assumption)
                                have q212 : x16_1 < (l0_0.length : Int) := of_decide_eq_true (by first | (with_reducible assumption) | assumption)
                                obtain ⟨ad212, e212, hx212_0⟩ := Kd.at_int HR0_0.out x16_1 p212 q212
                                have hw212_0 := hx212_0
                                cases e212
                                replace hx212_0 := (HB.out.cell (World.block_lt_of_cell? w _ hx212_0)).trans hx212_0
                                replace p212 := eq_true p212
                                replace q212 := eq_true q212
                                obtain ⟨Ao31, co31, eo31⟩ := Kd.R_slice HO208.out
                                (first | subst eo31 | (injection eo31 with f1_ f2_ f3_; have f4_ := f1_.symm; have f5_ := f3_.symm; clear f1_ f2_ f3_; subst f4_; subst f5_))
                                have p213 : 0 ≤ (x16_1 : Int) := of_decide_eq_true (by first | (with_reducible assumption) | assumption)
                                have q213 : x16_1 < (y206.length : Int) := of_decide_eq_true (by first | (with_reducible assumption) | assumption)
                                obtain ⟨ad213, e213, hx213_0⟩ := Kd.at_int (Kd.R_reads' HO208.out).2.2 x16_1 p213 q213
                                cases e213
                                replace p213 := eq_true p213
                                replace q213 := eq_true q213
                                refine start_ (n := 31) (S := fun w' => w'.cell? ⟨gb182, 0, none⟩ = some (.slice (some ad212) l0_0.length c0_0) ∧ w'.cell? ⟨gb182, 1, none⟩ = some (.slice A0_1 l0_1.length c0_1) ∧ w'.cell? (ad212.add (x16_1).toNat) = some (.int .u32 (rd l0_0 x16_1)) ∧ w'.cell? (ad213.add (x16_1).toNat) = some (.int .u32 (rd y206 x16_1))) (ds := []) #[false, false, false, false, false, false, false, false, false, false, false, false, false, false, false, false, false, false, false, false, false, false, false, false, false, false, false, false, false, false, false] (by kernel_rfl) rfl rfl ⟨(blk_cell BK182.out 0).trans rfl, (blk_cell BK182.out 1).trans rfl, ((HB.out.cell (World.block_lt_of_cell? w _ hw212_0)).trans hw212_0), hx213_0⟩ (fun hHeld => ?_); refine with_tabW demurralref03_Mix.tab14 demurralref03_Mix.bits14 (fun HT_ HW_ => ?_)
                                generalize w29.drew = w30 at HO208 BK182 HB hx212_0 hx213_0 hHeld ⊢
                                refine pure_ (i := 0) (N := some 55) (v := ?_) (a' := ?_) #[true, false, false, false, false, false, false, false, false, false, false, false, false, false, false, false, false, false, false, false, false, false, false, false, false, false, false, false, false, false, false] rfl rfl (any_of HT_.out (by kernel_rfl)) (fun _ _ _ h => h) (Or.inl ⟨by rfl, ?_⟩) ?_ ?_
                                rotate_left
                                · intro w'
                                  go_simp
                                  with_reducible rfl
                                rotate_left
                                · simp only [Act.put, List.setIfInBounds_toArray, List.set_cons_zero, List.set_cons_succ, i64_w, i32_w]
                                  rfl
                                refine pure_ (i := 1) (N := some 56) (v := ?_) (a' := ?_) #[true, true, false, false, false, false, false, false, false, false, false, false, false, false, false, false, false, false, false, false, false, false, false, false, false, false, false, false, false, false, false] rfl rfl (any_of HT_.out (by kernel_rfl)) (fun _ _ _ h => h) (Or.inl ⟨by rfl, ?_⟩) ?_ ?_
                                rotate_left
                                · intro w'
                                  go_simp
                                  with_reducible rfl
                                rotate_left
                                · simp only [Act.put, List.setIfInBounds_toArray, List.set_cons_zero, List.set_cons_succ, i64_w, i32_w]
                                  rfl
                                refine pure_ (i := 3) (N := some 58) (v := ?_) (a' := ?_) #[true, true, false, true, false, false, false, false, false, false, false, false, false, false, false, false, false, false, false, false, false, false, false, false, false, false, false, false, false, false, false] rfl rfl (any_of HT_.out (by kernel_rfl)) (fun _ _ _ h => h) (Or.inl ⟨by rfl, ?_⟩) ?_ ?_
                                rotate_left
                                · intro w'
                                  go_simp
                                  with_reducible rfl
                                rotate_left
                                · simp only [Act.put, List.setIfInBounds_toArray, List.set_cons_zero, List.set_cons_succ, i64_w, i32_w]
                                  rfl
                                refine pure_ (i := 6) (N := some 61) (v := ?_) (a' := ?_) #[true, true, false, true, false, false, true, false, false, false, false, false, false, false, false, false, false, false, false, false, false, false, false, false, false, false, false, false, false, false, false] rfl rfl (any_of HT_.out (by kernel_rfl)) (fun _ _ _ h => h) (Or.inl ⟨by rfl, ?_⟩) ?_ ?_
                                rotate_left
                                · intro w'
                                  go_simp
                                  with_reducible rfl
                                rotate_left
                                · simp only [Act.put, List.setIfInBounds_toArray, List.set_cons_zero, List.set_cons_succ, i64_w, i32_w]
                                  rfl
                                refine pure_ (i := 10) (N := some 65) (v := ?_) (a' := ?_) #[true, true, false, true, false, false, true, false, false, false, true, false, false, false, false, false, false, false, false, false, false, false, false, false, false, false, false, false, false, false, false] rfl rfl (any_of HT_.out (by kernel_rfl)) (fun _ _ _ h => h) (Or.inl ⟨by rfl, ?_⟩) ?_ ?_
                                rotate_left
                                · intro w'
                                  go_simp
                                  with_reducible rfl
                                rotate_left
                                · simp only [Act.put, List.setIfInBounds_toArray, List.set_cons_zero, List.set_cons_succ, i64_w, i32_w]
                                  rfl
                                refine pure_ (i := 11) (N := some 66) (v := ?_) (a' := ?_) #[true, true, false, true, false, false, true, false, false, false, true, true, false, false, false, false, false, false, false, false, false, false, false, false, false, false, false, false, false, false, false] rfl rfl (any_of HT_.out (by kernel_rfl)) (fun _ _ _ h => h) (Or.inl ⟨by rfl, ?_⟩) ?_ ?_
                                rotate_left
                                · intro w'
                                  go_simp
                                  with_reducible rfl
                                rotate_left
                                · simp only [Act.put, List.setIfInBounds_toArray, List.set_cons_zero, List.set_cons_succ, i64_w, i32_w]
                                  rfl
                                refine pure_ (i := 12) (N := some 67) (v := ?_) (a' := ?_) #[true, true, false, true, false, false, true, false, false, false, true, true, true, false, false, false, false, false, false, false, false, false, false, false, false, false, false, false, false, false, false] rfl rfl (any_of HT_.out (by kernel_rfl)) (fun _ _ _ h => h) (Or.inl ⟨by rfl, ?_⟩) ?_ ?_
                                rotate_left
                                · intro w'
                                  go_simp
                                  with_reducible rfl
                                rotate_left
                                · simp only [Act.put, List.setIfInBounds_toArray, List.set_cons_zero, List.set_cons_succ, i64_w, i32_w]
                                  rfl
                                refine pure_ (i := 13) (N := some 68) (v := ?_) (a' := ?_) #[true, true, false, true, false, false, true, false, false, false, true, true, true, true, false, false, false, false, false, false, false, false, false, false, false, false, false, false, false, false, false] rfl rfl (any_of HT_.out (by kernel_rfl)) (fun _ _ _ h => h) (Or.inl ⟨by rfl, ?_⟩) ?_ ?_
                                rotate_left
                                · intro w'
                                  go_simp
                                  with_reducible rfl
                                rotate_left
                                · simp only [Act.put, List.setIfInBounds_toArray, List.set_cons_zero, List.set_cons_succ, i64_w, i32_w]
                                  rfl
                                refine pure_ (i := 14) (N := some 69) (v := ?_) (a' := ?_) #[true, true, false, true, false, false, true, false, false, false, true, true, true, true, true, false, false, false, false, false, false, false, false, false, false, false, false, false, false, false, false] rfl rfl (any_of HT_.out (by kernel_rfl)) (fun _ _ _ h => h) (Or.inl ⟨by rfl, ?_⟩) ?_ ?_
                                rotate_left
                                · intro w'
                                  go_simp
                                  with_reducible rfl
                                rotate_left
                                · simp only [Act.put, List.setIfInBounds_toArray, List.set_cons_zero, List.set_cons_succ, i64_w, i32_w]
                                  rfl
                                refine pure_ (i := 15) (N := some 70) (v := ?_) (a' := ?_) #[true, true, false, true, false, false, true, false, false, false, true, true, true, true, true, true, false, false, false, false, false, false, false, false, false, false, false, false, false, false, false] rfl rfl (any_of HT_.out (by kernel_rfl)) (fun _ _ _ h => h) (Or.inl ⟨by rfl, ?_⟩) ?_ ?_
                                rotate_left
                                · intro w'
                                  go_simp
                                  with_reducible rfl
                                rotate_left
                                · simp only [Act.put, List.setIfInBounds_toArray, List.set_cons_zero, List.set_cons_succ, i64_w, i32_w]
                                  rfl
                                refine pure_ (i := 16) (N := some 71) (v := ?_) (a' := ?_) #[true, true, false, true, false, false, true, false, false, false, true, true, true, true, true, true, true, false, false, false, false, false, false, false, false, false, false, false, false, false, false] rfl rfl (any_of HT_.out (by kernel_rfl)) (fun _ _ _ h => h) (Or.inl ⟨by rfl, ?_⟩) ?_ ?_
                                rotate_left
                                · intro w'
                                  go_simp
                                  with_reducible rfl
                                rotate_left
                                · simp only [Act.put, List.setIfInBounds_toArray, List.set_cons_zero, List.set_cons_succ, i64_w, i32_w]
                                  rfl
                                refine pure_ (i := 17) (N := some 72) (v := ?_) (a' := ?_) #[true, true, false, true, false, false, true, false, false, false, true, true, true, true, true, true, true, true, false, false, false, false, false, false, false, false, false, false, false, false, false] rfl rfl (any_of HT_.out (by kernel_rfl)) (fun _ _ _ h => h) (Or.inl ⟨by rfl, ?_⟩) ?_ ?_
                                rotate_left
                                · intro w'
                                  go_simp
                                  with_reducible rfl
                                rotate_left
                                · simp only [Act.put, List.setIfInBounds_toArray, List.set_cons_zero, List.set_cons_succ, i64_w, i32_w]
                                  rfl
                                refine pure_ (i := 19) (N := some 74) (v := ?_) (a' := ?_) #[true, true, false, true, false, false, true, false, false, false, true, true, true, true, true, true, true, true, false, true, false, false, false, false, false, false, false, false, false, false, false] rfl rfl (any_of HT_.out (by kernel_rfl)) (fun _ _ _ h => h) (Or.inl ⟨by rfl, ?_⟩) ?_ ?_
                                rotate_left
                                · intro w'
                                  go_simp
                                  with_reducible rfl
                                rotate_left
                                · simp only [Act.put, List.setIfInBounds_toArray, List.set_cons_zero, List.set_cons_succ, i64_w, i32_w]
                                  rfl
                                refine pure_ (i := 21) (N := some 76) (v := ?_) (a' := ?_) #[true, true, false, true, false, false, true, false, false, false, true, true, true, true, true, true, true, true, false, true, false, true, false, false, false, false, false, false, false, false, false] rfl rfl (any_of HT_.out (by kernel_rfl)) (fun _ _ _ h => h) (Or.inl ⟨by rfl, ?_⟩) ?_ ?_
                                rotate_left
                                · intro w'
                                  go_simp
                                  with_reducible rfl
                                rotate_left
                                · simp only [Act.put, List.setIfInBounds_toArray, List.set_cons_zero, List.set_cons_succ, i64_w, i32_w]
                                  rfl
                                refine pure_ (i := 25) (N := some 80) (v := ?_) (a' := ?_) #[true, true, false, true, false, false, true, false, false, false, true, true, true, true, true, true, true, true, false, true, false, true, false, false, false, true, false, false, false, false, false] rfl rfl (any_of HT_.out (by kernel_rfl)) (fun _ _ _ h => h) (Or.inl ⟨by rfl, ?_⟩) ?_ ?_
                                rotate_left
                                · intro w'
                                  go_simp
                                  with_reducible rfl
                                rotate_left
                                · simp only [Act.put, List.setIfInBounds_toArray, List.set_cons_zero, List.set_cons_succ, i64_w, i32_w]
                                  rfl
                                refine pure_ (i := 26) (N := some 81) (v := ?_) (a' := ?_) #[true, true, false, true, false, false, true, false, false, false, true, true, true, true, true, true, true, true, false, true, false, true, false, false, false, true, true, false, false, false, false] rfl rfl (any_of HT_.out (by kernel_rfl)) (fun _ _ _ h => h) (Or.inl ⟨by rfl, ?_⟩) ?_ ?_
                                rotate_left
                                · intro w'
                                  go_simp
                                  with_reducible rfl
                                rotate_left
                                · simp only [Act.put, List.setIfInBounds_toArray, List.set_cons_zero, List.set_cons_succ, i64_w, i32_w]
                                  rfl
                                refine pure_ (i := 27) (N := some 82) (v := ?_) (a' := ?_) #[true, true, false, true, false, false, true, false, false, false, true, true, true, true, true, true, true, true, false, true, false, true, false, false, false, true, true, true, false, false, false] rfl rfl (any_of HT_.out (by kernel_rfl)) (fun _ _ _ h => h) (Or.inl ⟨by rfl, ?_⟩) ?_ ?_
                                rotate_left
                                · intro w'
                                  go_simp
                                  with_reducible rfl
                                rotate_left
                                · simp only [Act.put, List.setIfInBounds_toArray, List.set_cons_zero, List.set_cons_succ, i64_w, i32_w]
                                  rfl
                                refine take_ (i := 20) (N := some 75) (v := ?_) (a' := ?_) #[true, true, false, true, false, false, true, false, false, false, true, true, true, true, true, true, true, true, false, true, true, true, false, false, false, true, true, true, false, false, false] rfl rfl (take_ofW HT_.out HW_.out (by kernel_rfl)) (fun _ _ _ h => h) (Or.inl ⟨by rfl, ?_⟩) hHeld ?_ ?_
                                rotate_left
                                · rintro w' ⟨s0, s1, s2, s3⟩
                                  go_simp
                                  with_reducible rfl
                                rotate_left
                                · simp only [Act.put, List.setIfInBounds_toArray, List.set_cons_zero, List.set_cons_succ, i64_w, i32_w]
                                  rfl
                                refine pure_ (i := 22) (N := some 77) (v := ?_) (a' := ?_) #[true, true, false, true, false, false, true, false, false, false, true, true, true, true, true, true, true, true, false, true, true, true, true, false, false, true, true, true, false, false, false] rfl rfl (any_of HT_.out (by kernel_rfl)) (fun _ _ _ h => h) (Or.inl ⟨by rfl, ?_⟩) ?_ ?_
                                rotate_left
                                · intro w'
                                  go_simp
                                  with_reducible rfl
                                rotate_left
                                · simp only [Act.put, List.setIfInBounds_toArray, List.set_cons_zero, List.set_cons_succ, i64_w, i32_w]
                                  rfl
                                refine take_ (i := 23) (N := some 78) (v := ?_) (a' := ?_) #[true, true, false, true, false, false, true, false, false, false, true, true, true, true, true, true, true, true, false, true, true, true, true, true, false, true, true, true, false, false, false] rfl rfl (take_ofW HT_.out HW_.out (by kernel_rfl)) (fun _ _ _ h => h) (Or.inl ⟨by rfl, ?_⟩) hHeld ?_ ?_
                                rotate_left
                                · rintro w' ⟨s0, s1, s2, s3⟩
                                  go_simp
                                  with_reducible rfl
                                rotate_left
                                · simp only [Act.put, List.setIfInBounds_toArray, List.set_cons_zero, List.set_cons_succ, i64_w, i32_w]
                                  rfl
                                refine take_ (i := 28) (N := some 83) (v := ?_) (a' := ?_) #[true, true, false, true, false, false, true, false, false, false, true, true, true, true, true, true, true, true, false, true, true, true, true, true, false, true, true, true, true, false, false] rfl rfl (take_ofW HT_.out HW_.out (by kernel_rfl)) (fun _ _ _ h => h) (Or.inl ⟨by rfl, ?_⟩) hHeld ?_ ?_
                                rotate_left
                                · rintro w' ⟨s0, s1, s2, s3⟩
                                  go_simp
                                  with_reducible rfl
                                rotate_left
                                · simp only [Act.put, List.setIfInBounds_toArray, List.set_cons_zero, List.set_cons_succ, i64_w, i32_w]
                                  rfl
                                refine one_ (i := 2) (N := some 57) #[true, true, true, true, false, false, true, false, false, false, true, true, true, true, true, true, true, true, false, true, true, true, true, true, false, true, true, true, true, false, false] rfl rfl (one_of HT_.out (by kernel_rfl)) (by decide) (fun K hK => ?_)
                                refine goes_ Tryd.func90 (by kernel_rfl) rfl #[.int .u32 x12_1, .int .u32 6] (by rfl) rfl rfl (by (try simp only [List.map_toArray, List.map_cons, List.map_nil]); first | done | rfl | (simp only [List.length_drop, List.length_take]; rfl)) ?_
                                with_reducible refine (demurralref03_ror.calls x12_1 6 t209 _ A18.out).mono ?_
                                rintro e w' ⟨rfl, ⟨nd, rfl⟩⟩
                                refine ⟨_, rfl, ?_⟩
                                refine hK.out _ _ ⟨(blk_cell BK182.out 0).trans rfl, (blk_cell BK182.out 1).trans rfl, ((HB.out.cell (World.block_lt_of_cell? w _ hw212_0)).trans hw212_0), hHeld.2.2.2⟩ (fun hHeld => ?_)
                                clear hK K
                                refine norm_ (a' := ?_) ?_ ?_
                                rotate_left
                                · show Act.put _ (some 57) _ = _
                                  simp only [Act.put, List.setIfInBounds_toArray, List.set_cons_zero, List.set_cons_succ, i64_w, i32_w]
                                  rfl
                                refine one_ (i := 4) (N := some 59) #[true, true, true, true, true, false, true, false, false, false, true, true, true, true, true, true, true, true, false, true, true, true, true, true, false, true, true, true, true, false, false] rfl rfl (one_of HT_.out (by kernel_rfl)) (by decide) (fun K hK => ?_)
                                refine goes_ Tryd.func90 (by kernel_rfl) rfl #[.int .u32 x12_1, .int .u32 11] (by rfl) rfl rfl (by (try simp only [List.map_toArray, List.map_cons, List.map_nil]); first | done | rfl | (simp only [List.length_drop, List.length_take]; rfl)) ?_
                                with_reducible refine (demurralref03_ror.calls x12_1 11 t210 _ A19.out).mono ?_
                                rintro e w' ⟨rfl, ⟨nd, rfl⟩⟩
                                refine ⟨_, rfl, ?_⟩
                                refine hK.out _ _ ⟨(blk_cell BK182.out 0).trans rfl, (blk_cell BK182.out 1).trans rfl, ((HB.out.cell (World.block_lt_of_cell? w _ hw212_0)).trans hw212_0), hHeld.2.2.2⟩ (fun hHeld => ?_)
                                clear hK K
                                refine norm_ (a' := ?_) ?_ ?_
                                rotate_left
                                · show Act.put _ (some 59) _ = _
                                  simp only [Act.put, List.setIfInBounds_toArray, List.set_cons_zero, List.set_cons_succ, i64_w, i32_w]
                                  rfl
                                refine pure_ (i := 5) (N := some 60) (v := ?_) (a' := ?_) #[true, true, true, true, true, true, true, false, false, false, true, true, true, true, true, true, true, true, false, true, true, true, true, true, false, true, true, true, true, false, false] rfl rfl (any_of HT_.out (by kernel_rfl)) (fun _ _ _ h => h) (Or.inl ⟨by rfl, ?_⟩) ?_ ?_
                                rotate_left
                                · intro w'
                                  go_simp
                                  with_reducible rfl
                                rotate_left
                                · simp only [Act.put, List.setIfInBounds_toArray, List.set_cons_zero, List.set_cons_succ, i64_w, i32_w]
                                  rfl
                                refine one_ (i := 7) (N := some 62) #[true, true, true, true, true, true, true, true, false, false, true, true, true, true, true, true, true, true, false, true, true, true, true, true, false, true, true, true, true, false, false] rfl rfl (one_of HT_.out (by kernel_rfl)) (by decide) (fun K hK => ?_)
                                refine goes_ Tryd.func90 (by kernel_rfl) rfl #[.int .u32 x12_1, .int .u32 25] (by rfl) rfl rfl (by (try simp only [List.map_toArray, List.map_cons, List.map_nil]); first | done | rfl | (simp only [List.length_drop, List.length_take]; rfl)) ?_
                                with_reducible refine (demurralref03_ror.calls x12_1 25 t211 _ A20.out).mono ?_
                                rintro e w' ⟨rfl, ⟨nd, rfl⟩⟩
                                refine ⟨_, rfl, ?_⟩
                                refine hK.out _ _ ⟨(blk_cell BK182.out 0).trans rfl, (blk_cell BK182.out 1).trans rfl, ((HB.out.cell (World.block_lt_of_cell? w _ hw212_0)).trans hw212_0), hHeld.2.2.2⟩ (fun hHeld => ?_)
                                clear hK K
                                refine norm_ (a' := ?_) ?_ ?_
                                rotate_left
                                · show Act.put _ (some 62) _ = _
                                  simp only [Act.put, List.setIfInBounds_toArray, List.set_cons_zero, List.set_cons_succ, i64_w, i32_w]
                                  rfl
                                refine pure_ (i := 8) (N := some 63) (v := ?_) (a' := ?_) #[true, true, true, true, true, true, true, true, true, false, true, true, true, true, true, true, true, true, false, true, true, true, true, true, false, true, true, true, true, false, false] rfl rfl (any_of HT_.out (by kernel_rfl)) (fun _ _ _ h => h) (Or.inl ⟨by rfl, ?_⟩) ?_ ?_
                                rotate_left
                                · intro w'
                                  go_simp
                                  with_reducible rfl
                                rotate_left
                                · simp only [Act.put, List.setIfInBounds_toArray, List.set_cons_zero, List.set_cons_succ, i64_w, i32_w]
                                  rfl
                                refine pure_ (i := 9) (N := some 64) (v := ?_) (a' := ?_) #[true, true, true, true, true, true, true, true, true, true, true, true, true, true, true, true, true, true, false, true, true, true, true, true, false, true, true, true, true, false, false] rfl rfl (any_of HT_.out (by kernel_rfl)) (fun _ _ _ h => h) (Or.inl ⟨by rfl, ?_⟩) ?_ ?_
                                rotate_left
                                · intro w'
                                  go_simp
                                  with_reducible rfl
                                rotate_left
                                · simp only [Act.put, List.setIfInBounds_toArray, List.set_cons_zero, List.set_cons_succ, i64_w, i32_w]
                                  rfl
                                refine pure_ (i := 18) (N := some 73) (v := ?_) (a' := ?_) #[true, true, true, true, true, true, true, true, true, true, true, true, true, true, true, true, true, true, true, true, true, true, true, true, false, true, true, true, true, false, false] rfl rfl (any_of HT_.out (by kernel_rfl)) (fun _ _ _ h => h) (Or.inl ⟨by rfl, ?_⟩) ?_ ?_
                                rotate_left
                                · intro w'
                                  go_simp
                                  with_reducible rfl
                                rotate_left
                                · simp only [Act.put, List.setIfInBounds_toArray, List.set_cons_zero, List.set_cons_succ, i64_w, i32_w]
                                  rfl
                                refine pure_ (i := 24) (N := some 79) (v := ?_) (a' := ?_) #[true, true, true, true, true, true, true, true, true, true, true, true, true, true, true, true, true, true, true, true, true, true, true, true, true, true, true, true, true, false, false] rfl rfl (any_of HT_.out (by kernel_rfl)) (fun _ _ _ h => h) (Or.inl ⟨by rfl, ?_⟩) ?_ ?_
                                rotate_left
                                · intro w'
                                  go_simp
                                  with_reducible rfl
                                rotate_left
                                · simp only [Act.put, List.setIfInBounds_toArray, List.set_cons_zero, List.set_cons_succ, i64_w, i32_w]
                                  rfl
                                refine pure_ (i := 29) (N := some 84) (v := ?_) (a' := ?_) #[true, true, true, true, true, true, true, true, true, true, true, true, true, true, true, true, true, true, true, true, true, true, true, true, true, true, true, true, true, true, false] rfl rfl (any_of HT_.out (by kernel_rfl)) (fun _ _ _ h => h) (Or.inl ⟨by rfl, ?_⟩) ?_ ?_
                                rotate_left
                                · intro w'
                                  go_simp
                                  with_reducible rfl
                                rotate_left
                                · simp only [Act.put, List.setIfInBounds_toArray, List.set_cons_zero, List.set_cons_succ, i64_w, i32_w]
                                  rfl
                                refine pure_ (i := 30) (N := some 17) (v := ?_) (a' := ?_) #[true, true, true, true, true, true, true, true, true, true, true, true, true, true, true, true, true, true, true, true, true, true, true, true, true, true, true, true, true, true, true] rfl rfl (any_of HT_.out (by kernel_rfl)) (fun _ _ _ h => h) (Or.inl ⟨by rfl, ?_⟩) ?_ ?_
                                rotate_left
                                · intro w'
                                  go_simp
                                  with_reducible rfl
                                rotate_left
                                · simp only [Act.put, List.setIfInBounds_toArray, List.set_cons_zero, List.set_cons_succ, i64_w, i32_w]
                                  rfl
                                refine done_ (done_of HT_.out (by kernel_rfl)) ?_
                                try go_wp2_with (first | ((with_reducible refine gate_callee (f := 90) rfl ?_); refine goesL_ (some 86) rfl rfl Tryd.func90 (by kernel_rfl) rfl #[.int .u32 x8_1, .int .u32 2] rfl (by (try simp only [List.map_toArray, List.map_cons, List.map_nil]); first | done | rfl | (simp only [List.length_drop, List.length_take]; rfl)) ?_; (with_reducible refine (demurralref03_ror.calls x8_1 2 t214 _ A24.out).mono ?_); rintro e w' ⟨rfl, ⟨nd, rfl⟩⟩; refine ⟨_, rfl, ?_⟩) | ((with_reducible refine gate_callee (f := 90) rfl ?_); refine goesL_ (some 88) rfl rfl Tryd.func90 (by kernel_rfl) rfl #[.int .u32 x8_1, .int .u32 13] rfl (by (try simp only [List.map_toArray, List.map_cons, List.map_nil]); first | done | rfl | (simp only [List.length_drop, List.length_take]; rfl)) ?_; (with_reducible refine (demurralref03_ror.calls x8_1 13 t215 _ A25.out).mono ?_); rintro e w' ⟨rfl, ⟨nd, rfl⟩⟩; refine ⟨_, rfl, ?_⟩) | ((with_reducible refine gate_callee (f := 90) rfl ?_); refine goesL_ (some 91) rfl rfl Tryd.func90 (by kernel_rfl) rfl #[.int .u32 x8_1, .int .u32 22] rfl (by (try simp only [List.map_toArray, List.map_cons, List.map_nil]); first | done | rfl | (simp only [List.length_drop, List.length_take]; rfl)) ?_; (with_reducible refine (demurralref03_ror.calls x8_1 22 t216 _ A26.out).mono ?_); rintro e w' ⟨rfl, ⟨nd, rfl⟩⟩; refine ⟨_, rfl, ?_⟩))
                                go_roundg k1
                                case measure => have := HK1.out; omega
                                case rel => exact ⟨(y206), ((((((((((x15_1 + (Go.bits .xor .u32 (Go.bits .xor .u32 t209 t210) t211)) % 4294967296) + (Go.bits .xor .u32 (Go.bits .and .u32 x12_1 x13_1) (Go.bits .and .u32 ((4294967295 - x12_1) % 4294967296) x14_1))) % 4294967296) + (rd l0_0 x16_1)) % 4294967296) + (rd y206 x16_1)) % 4294967296) + (((Go.bits .xor .u32 (Go.bits .xor .u32 t214 t215) t216) + (Go.bits .xor .u32 (Go.bits .xor .u32 (Go.bits .and .u32 x8_1 x9_1) (Go.bits .and .u32 x8_1 x10_1)) (Go.bits .and .u32 x9_1 x10_1))) % 4294967296)) % 4294967296), (x8_1), (x9_1), (x10_1), ((x11_1 + ((((((((x15_1 + (Go.bits .xor .u32 (Go.bits .xor .u32 t209 t210) t211)) % 4294967296) + (Go.bits .xor .u32 (Go.bits .and .u32 x12_1 x13_1) (Go.bits .and .u32 ((4294967295 - x12_1) % 4294967296) x14_1))) % 4294967296) + (rd l0_0 x16_1)) % 4294967296) + (rd y206 x16_1)) % 4294967296)) % 4294967296), (x12_1), (x13_1), (x14_1), (wrap64 (x16_1 + 1)), (by first | rfl | (simp; done) | (simp [*]; done)), (by first | rfl | (simp; done) | (simp [*]; done)), (by first | rfl | (simp; done) | (simp [*]; done)), (by first | rfl | (simp; done) | (simp [*]; done)), (by first | rfl | (simp; done) | (simp [*]; done)), (by first | rfl | (simp; done) | (simp [*]; done)), (by first | rfl | (simp; done) | (simp [*]; done)), (by first | rfl | (simp; done) | (simp [*]; done)), (by first | rfl | (simp; done) | (simp [*]; done)), H', ⟨by have := HK1.out; omega⟩, ⟨by (with_reducible repeat (first | apply Kd.R_alloc | apply Kd.R_drewN | apply Kd.R_drew)); exact HO208.out⟩, ⟨by (with_reducible repeat (first | refine blk_drewN ?_ _ | refine blk_drew ?_ | refine blk_alloc ?_ _)); exact BK182.out⟩, ⟨by repeat (first | (with_reducible first | exact HB.out | apply below_alloc | apply pw_below_drewN | apply below_drew1 | refine below_set ?_ GE182.out) | exact HB.out)⟩⟩
                              · rw [if_neg c23] at H
                                exact absurd H (by simp)
                            · rw [if_neg c22] at H
                              exact absurd H (by simp)
                          · rw [if_neg c21] at H
                            exact absurd H (by simp)
                        · rw [if_neg c17] at H
                          exact absurd H (by simp)
                      · rw [if_neg c15] at H
                        have c15b0 : decide (x16_1 < 64) = false := decide_eq_false c15
                        clear c15
                        by_cases c32 : 0 < (l1.length : Int)
                        · rw [if_pos c32] at H
                          have c32b0 : decide (0 < (l1.length : Int)) = true := decide_eq_true c32
                          have c32b1 : decide (0 < l1.length) = true := decide_eq_true (by omega)
                          clear c32
                          by_cases c33 : 1 < (l1.length : Int)
                          · rw [if_pos c33] at H
                            have c33b0 : decide (1 < (l1.length : Int)) = true := decide_eq_true c33
                            have c33b1 : decide (1 < l1.length) = true := decide_eq_true (by omega)
                            clear c33
                            by_cases c34 : 2 < (l1.length : Int)
                            · rw [if_pos c34] at H
                              have c34b0 : decide (2 < (l1.length : Int)) = true := decide_eq_true c34
                              have c34b1 : decide (2 < l1.length) = true := decide_eq_true (by omega)
                              clear c34
                              by_cases c35 : 3 < (l1.length : Int)
                              · rw [if_pos c35] at H
                                have c35b0 : decide (3 < (l1.length : Int)) = true := decide_eq_true c35
                                have c35b1 : decide (3 < l1.length) = true := decide_eq_true (by omega)
                                clear c35
                                by_cases c36 : 4 < (l1.length : Int)
                                · rw [if_pos c36] at H
                                  have c36b0 : decide (4 < (l1.length : Int)) = true := decide_eq_true c36
                                  have c36b1 : decide (4 < l1.length) = true := decide_eq_true (by omega)
                                  clear c36
                                  by_cases c37 : 5 < (l1.length : Int)
                                  · rw [if_pos c37] at H
                                    have c37b0 : decide (5 < (l1.length : Int)) = true := decide_eq_true c37
                                    have c37b1 : decide (5 < l1.length) = true := decide_eq_true (by omega)
                                    clear c37
                                    by_cases c38 : 6 < (l1.length : Int)
                                    · rw [if_pos c38] at H
                                      have c38b0 : decide (6 < (l1.length : Int)) = true := decide_eq_true c38
                                      have c38b1 : decide (6 < l1.length) = true := decide_eq_true (by omega)
                                      clear c38
                                      by_cases c39 : 7 < (l1.length : Int)
                                      · rw [if_pos c39] at H
                                        have c39b0 : decide (7 < (l1.length : Int)) = true := decide_eq_true c39
                                        have c39b1 : decide (7 < l1.length) = true := decide_eq_true (by omega)
                                        clear c39
                                        obtain ⟨y202, hy202⟩ : ∃ y_ : List Int, y_ = (([((rd l1 0) + x8_1) % 4294967296, ((rd l1 1) + x9_1) % 4294967296, ((rd l1 2) + x10_1) % 4294967296, ((rd l1 3) + x11_1) % 4294967296, ((rd l1 4) + x12_1) % 4294967296, ((rd l1 5) + x13_1) % 4294967296, ((rd l1 6) + x14_1) % 4294967296, ((rd l1 7) + x15_1) % 4294967296] : List Int)) := ⟨_, rfl⟩
                                        replace H : (some y202) = some r := by first | (rw [hy202]; with_reducible exact H) | (have H2_ := (Option.bind_some _ _).symm.trans H; rw [hy202]; with_reducible exact H2_) | (have H2_ := (Option.bind_some _ _).symm.trans H; with_reducible exact H2_) | with_reducible exact H | (rw [hy202]; exact H) | exact H
                                        have Ny202 := Aside0.mk hy202
                                        clear hy202
                                        obtain rfl := Option.some.inj H
                                        try go_wp2
                                        have n0_ := Aside0.mk (Kd.R_drew HO_7.out)
                                        have n1_ := Aside0.mk (blk_drew BK182.out)
                                        have n2_ := Aside0.mk (below_drew1 HB.out)
                                        clear HO_7
                                        clear BK182
                                        clear HB
                                        have HO_7 := n0_
                                        have BK182 := n1_
                                        have HB := n2_
                                        clear n0_ n1_ n2_
                                        have p194 : 0 ≤ (0 : Int) := (by omega)
                                        have q194 : 0 < (l1.length : Int) := of_decide_eq_true (by first | (with_reducible assumption) | assumption)
                                        obtain ⟨ad194, e194, hx194_0⟩ := Kd.at_int HR1.out 0 p194 q194
                                        have hw194_0 := hx194_0
                                        (try rw [show ((0 : Int)).toNat = 0 from rfl] at hw194_0)
                                        (try rw [show 0 * 1 = 0 from rfl] at hw194_0)
                                        (try rw [Addr.add_zero'] at hw194_0)
                                        obtain rfl : ad186 = ad194 := (by injection e194)
                                        have qi194 : (0 < l1.length) = True := eq_true (by omega)
                                        (try rw [show ((0 : Int)).toNat = 0 from rfl] at hx194_0)
                                        (try rw [Addr.add_zero'] at hx194_0)
                                        replace hx194_0 := (HB.out.cell (World.block_lt_of_cell? w _ hx194_0)).trans hx194_0
                                        replace p194 := eq_true p194
                                        replace q194 := eq_true q194
                                        have p195 : 0 ≤ (1 : Int) := (by omega)
                                        have q195 : 1 < (l1.length : Int) := of_decide_eq_true (by first | (with_reducible assumption) | assumption)
                                        obtain ⟨ad195, e195, hx195_0⟩ := Kd.at_int HR1.out 1 p195 q195
                                        have hw195_0 := hx195_0
                                        (try rw [show ((1 : Int)).toNat = 1 from rfl] at hw195_0)
                                        (try rw [show 1 * 1 = 1 from rfl] at hw195_0)
                                        (try simp only [Nat.reduceMul, Nat.reduceEqDiff, Go.Addr.add, ↓reduceIte] at hw195_0)
                                        obtain rfl : ad186 = ad195 := (by injection e195)
                                        (try simp only [show (1 : Int).toNat = 1 from rfl, Nat.reduceMul, Nat.reduceEqDiff, Go.Addr.add, ↓reduceIte] at hx195_0)
                                        have qi195 : (1 < l1.length) = True := eq_true (by omega)
                                        (try rw [show ((1 : Int)).toNat = 1 from rfl] at hx195_0)
                                        replace hx195_0 := (HB.out.cell (World.block_lt_of_cell? w _ hx195_0)).trans hx195_0
                                        replace p195 := eq_true p195
                                        replace q195 := eq_true q195
                                        have p196 : 0 ≤ (2 : Int) := (by omega)
                                        have q196 : 2 < (l1.length : Int) := of_decide_eq_true (by first | (with_reducible assumption) | assumption)
                                        obtain ⟨ad196, e196, hx196_0⟩ := Kd.at_int HR1.out 2 p196 q196
                                        have hw196_0 := hx196_0
                                        (try rw [show ((2 : Int)).toNat = 2 from rfl] at hw196_0)
                                        (try rw [show 2 * 1 = 2 from rfl] at hw196_0)
                                        (try simp only [Nat.reduceMul, Nat.reduceEqDiff, Go.Addr.add, ↓reduceIte] at hw196_0)
                                        obtain rfl : ad186 = ad196 := (by injection e196)
                                        (try simp only [show (2 : Int).toNat = 2 from rfl, Nat.reduceMul, Nat.reduceEqDiff, Go.Addr.add, ↓reduceIte] at hx196_0)
                                        have qi196 : (2 < l1.length) = True := eq_true (by omega)
                                        (try rw [show ((2 : Int)).toNat = 2 from rfl] at hx196_0)
                                        replace hx196_0 := (HB.out.cell (World.block_lt_of_cell? w _ hx196_0)).trans hx196_0
                                        replace p196 := eq_true p196
                                        replace q196 := eq_true q196
                                        have p197 : 0 ≤ (3 : Int) := (by omega)
                                        have q197 : 3 < (l1.length : Int) := of_decide_eq_true (by first | (with_reducible assumption) | assumption)
                                        obtain ⟨ad197, e197, hx197_0⟩ := Kd.at_int HR1.out 3 p197 q197
                                        have hw197_0 := hx197_0
                                        (try rw [show ((3 : Int)).toNat = 3 from rfl] at hw197_0)
                                        (try rw [show 3 * 1 = 3 from rfl] at hw197_0)
                                        (try simp only [Nat.reduceMul, Nat.reduceEqDiff, Go.Addr.add, ↓reduceIte] at hw197_0)
                                        obtain rfl : ad186 = ad197 := (by injection e197)
                                        (try simp only [show (3 : Int).toNat = 3 from rfl, Nat.reduceMul, Nat.reduceEqDiff, Go.Addr.add, ↓reduceIte] at hx197_0)
                                        have qi197 : (3 < l1.length) = True := eq_true (by omega)
                                        (try rw [show ((3 : Int)).toNat = 3 from rfl] at hx197_0)
                                        replace hx197_0 := (HB.out.cell (World.block_lt_of_cell? w _ hx197_0)).trans hx197_0
                                        replace p197 := eq_true p197
                                        replace q197 := eq_true q197
                                        have p198 : 0 ≤ (4 : Int) := (by omega)
                                        have q198 : 4 < (l1.length : Int) := of_decide_eq_true (by first | (with_reducible assumption) | assumption)
                                        obtain ⟨ad198, e198, hx198_0⟩ := Kd.at_int HR1.out 4 p198 q198
                                        have hw198_0 := hx198_0
                                        (try rw [show ((4 : Int)).toNat = 4 from rfl] at hw198_0)
                                        (try rw [show 4 * 1 = 4 from rfl] at hw198_0)
                                        (try simp only [Nat.reduceMul, Nat.reduceEqDiff, Go.Addr.add, ↓reduceIte] at hw198_0)
                                        obtain rfl : ad186 = ad198 := (by injection e198)
                                        (try simp only [show (4 : Int).toNat = 4 from rfl, Nat.reduceMul, Nat.reduceEqDiff, Go.Addr.add, ↓reduceIte] at hx198_0)
                                        have qi198 : (4 < l1.length) = True := eq_true (by omega)
                                        (try rw [show ((4 : Int)).toNat = 4 from rfl] at hx198_0)
                                        replace hx198_0 := (HB.out.cell (World.block_lt_of_cell? w _ hx198_0)).trans hx198_0
                                        replace p198 := eq_true p198
                                        replace q198 := eq_true q198
                                        have p199 : 0 ≤ (5 : Int) := (by omega)
                                        have q199 : 5 < (l1.length : Int) := of_decide_eq_true (by first | (with_reducible assumption) | assumption)
                                        obtain ⟨ad199, e199, hx199_0⟩ := Kd.at_int HR1.out 5 p199 q199
                                        have hw199_0 := hx199_0
                                        (try rw [show ((5 : Int)).toNat = 5 from rfl] at hw199_0)
                                        (try rw [show 5 * 1 = 5 from rfl] at hw199_0)
                                        (try simp only [Nat.reduceMul, Nat.reduceEqDiff, Go.Addr.add, ↓reduceIte] at hw199_0)
                                        obtain rfl : ad186 = ad199 := (by injection e199)
                                        (try simp only [show (5 : Int).toNat = 5 from rfl, Nat.reduceMul, Nat.reduceEqDiff, Go.Addr.add, ↓reduceIte] at hx199_0)
                                        have qi199 : (5 < l1.length) = True := eq_true (by omega)
                                        (try rw [show ((5 : Int)).toNat = 5 from rfl] at hx199_0)
                                        replace hx199_0 := (HB.out.cell (World.block_lt_of_cell? w _ hx199_0)).trans hx199_0
                                        replace p199 := eq_true p199
                                        replace q199 := eq_true q199
                                        have p200 : 0 ≤ (6 : Int) := (by omega)
                                        have q200 : 6 < (l1.length : Int) := of_decide_eq_true (by first | (with_reducible assumption) | assumption)
                                        obtain ⟨ad200, e200, hx200_0⟩ := Kd.at_int HR1.out 6 p200 q200
                                        have hw200_0 := hx200_0
                                        (try rw [show ((6 : Int)).toNat = 6 from rfl] at hw200_0)
                                        (try rw [show 6 * 1 = 6 from rfl] at hw200_0)
                                        (try simp only [Nat.reduceMul, Nat.reduceEqDiff, Go.Addr.add, ↓reduceIte] at hw200_0)
                                        obtain rfl : ad186 = ad200 := (by injection e200)
                                        (try simp only [show (6 : Int).toNat = 6 from rfl, Nat.reduceMul, Nat.reduceEqDiff, Go.Addr.add, ↓reduceIte] at hx200_0)
                                        have qi200 : (6 < l1.length) = True := eq_true (by omega)
                                        (try rw [show ((6 : Int)).toNat = 6 from rfl] at hx200_0)
                                        replace hx200_0 := (HB.out.cell (World.block_lt_of_cell? w _ hx200_0)).trans hx200_0
                                        replace p200 := eq_true p200
                                        replace q200 := eq_true q200
                                        have p201 : 0 ≤ (7 : Int) := (by omega)
                                        have q201 : 7 < (l1.length : Int) := of_decide_eq_true (by first | (with_reducible assumption) | assumption)
                                        obtain ⟨ad201, e201, hx201_0⟩ := Kd.at_int HR1.out 7 p201 q201
                                        have hw201_0 := hx201_0
                                        (try rw [show ((7 : Int)).toNat = 7 from rfl] at hw201_0)
                                        (try rw [show 7 * 1 = 7 from rfl] at hw201_0)
                                        (try simp only [Nat.reduceMul, Nat.reduceEqDiff, Go.Addr.add, ↓reduceIte] at hw201_0)
                                        obtain rfl : ad186 = ad201 := (by injection e201)
                                        (try simp only [show (7 : Int).toNat = 7 from rfl, Nat.reduceMul, Nat.reduceEqDiff, Go.Addr.add, ↓reduceIte] at hx201_0)
                                        have qi201 : (7 < l1.length) = True := eq_true (by omega)
                                        (try rw [show ((7 : Int)).toNat = 7 from rfl] at hx201_0)
                                        replace hx201_0 := (HB.out.cell (World.block_lt_of_cell? w _ hx201_0)).trans hx201_0
                                        replace p201 := eq_true p201
                                        replace q201 := eq_true q201
                                        refine start_ (n := 42) (S := fun w' => w'.cell? ad186 = some (.int .u32 (rd l1 0)) ∧ w'.cell? ⟨ad186.block, ad186.off + 1, none⟩ = some (.int .u32 (rd l1 1)) ∧ w'.cell? ⟨ad186.block, ad186.off + 2, none⟩ = some (.int .u32 (rd l1 2)) ∧ w'.cell? ⟨ad186.block, ad186.off + 3, none⟩ = some (.int .u32 (rd l1 3)) ∧ w'.cell? ⟨ad186.block, ad186.off + 4, none⟩ = some (.int .u32 (rd l1 4)) ∧ w'.cell? ⟨ad186.block, ad186.off + 5, none⟩ = some (.int .u32 (rd l1 5)) ∧ w'.cell? ⟨ad186.block, ad186.off + 6, none⟩ = some (.int .u32 (rd l1 6)) ∧ w'.cell? ⟨ad186.block, ad186.off + 7, none⟩ = some (.int .u32 (rd l1 7))) (ds := []) #[false, false, false, false, false, false, false, false, false, false, false, false, false, false, false, false, false, false, false, false, false, false, false, false, false, false, false, false, false, false, false, false, false, false, false, false, false, false, false, false, false, false] (by kernel_rfl) rfl rfl ⟨((HB.out.cell (World.block_lt_of_cell? w _ hw194_0)).trans hw194_0), ((HB.out.cell (World.block_lt_of_cell? w _ hw195_0)).trans hw195_0), ((HB.out.cell (World.block_lt_of_cell? w _ hw196_0)).trans hw196_0), ((HB.out.cell (World.block_lt_of_cell? w _ hw197_0)).trans hw197_0), ((HB.out.cell (World.block_lt_of_cell? w _ hw198_0)).trans hw198_0), ((HB.out.cell (World.block_lt_of_cell? w _ hw199_0)).trans hw199_0), ((HB.out.cell (World.block_lt_of_cell? w _ hw200_0)).trans hw200_0), ((HB.out.cell (World.block_lt_of_cell? w _ hw201_0)).trans hw201_0)⟩ (fun hHeld => ?_); refine with_tabW demurralref03_Mix.tab24 demurralref03_Mix.bits24 (fun HT_ HW_ => ?_)
                                        generalize wr.drew = w40 at HO_7 BK182 HB hx194_0 hx195_0 hx196_0 hx197_0 hx198_0 hx199_0 hx200_0 hx201_0 hHeld ⊢
                                        refine pure_ (i := 0) (N := some 117) (v := ?_) (a' := ?_) #[true, false, false, false, false, false, false, false, false, false, false, false, false, false, false, false, false, false, false, false, false, false, false, false, false, false, false, false, false, false, false, false, false, false, false, false, false, false, false, false, false, false] rfl rfl (any_of HT_.out (by kernel_rfl)) (fun _ _ _ h => h) (Or.inl ⟨by rfl, ?_⟩) ?_ ?_
                                        rotate_left
                                        · intro w'
                                          go_simp
                                          with_reducible rfl
                                        rotate_left
                                        · simp only [Act.put, List.setIfInBounds_toArray, List.set_cons_zero, List.set_cons_succ, i64_w, i32_w]
                                          rfl
                                        refine pure_ (i := 1) (N := some 118) (v := ?_) (a' := ?_) #[true, true, false, false, false, false, false, false, false, false, false, false, false, false, false, false, false, false, false, false, false, false, false, false, false, false, false, false, false, false, false, false, false, false, false, false, false, false, false, false, false, false] rfl rfl (any_of HT_.out (by kernel_rfl)) (fun _ _ _ h => h) (Or.inl ⟨by rfl, ?_⟩) ?_ ?_
                                        rotate_left
                                        · intro w'
                                          go_simp
                                          with_reducible rfl
                                        rotate_left
                                        · simp only [Act.put, List.setIfInBounds_toArray, List.set_cons_zero, List.set_cons_succ, i64_w, i32_w]
                                          rfl
                                        refine pure_ (i := 3) (N := some 120) (v := ?_) (a' := ?_) #[true, true, false, true, false, false, false, false, false, false, false, false, false, false, false, false, false, false, false, false, false, false, false, false, false, false, false, false, false, false, false, false, false, false, false, false, false, false, false, false, false, false] rfl rfl (any_of HT_.out (by kernel_rfl)) (fun _ _ _ h => h) (Or.inl ⟨by rfl, ?_⟩) ?_ ?_
                                        rotate_left
                                        · intro w'
                                          go_simp
                                          with_reducible rfl
                                        rotate_left
                                        · simp only [Act.put, List.setIfInBounds_toArray, List.set_cons_zero, List.set_cons_succ, i64_w, i32_w]
                                          rfl
                                        refine pure_ (i := 5) (N := some 122) (v := ?_) (a' := ?_) #[true, true, false, true, false, true, false, false, false, false, false, false, false, false, false, false, false, false, false, false, false, false, false, false, false, false, false, false, false, false, false, false, false, false, false, false, false, false, false, false, false, false] rfl rfl (any_of HT_.out (by kernel_rfl)) (fun _ _ _ h => h) (Or.inl ⟨by rfl, ?_⟩) ?_ ?_
                                        rotate_left
                                        · intro w'
                                          go_simp
                                          with_reducible rfl
                                        rotate_left
                                        · simp only [Act.put, List.setIfInBounds_toArray, List.set_cons_zero, List.set_cons_succ, i64_w, i32_w]
                                          rfl
                                        refine pure_ (i := 6) (N := some 123) (v := ?_) (a' := ?_) #[true, true, false, true, false, true, true, false, false, false, false, false, false, false, false, false, false, false, false, false, false, false, false, false, false, false, false, false, false, false, false, false, false, false, false, false, false, false, false, false, false, false] rfl rfl (any_of HT_.out (by kernel_rfl)) (fun _ _ _ h => h) (Or.inl ⟨by rfl, ?_⟩) ?_ ?_
                                        rotate_left
                                        · intro w'
                                          go_simp
                                          with_reducible rfl
                                        rotate_left
                                        · simp only [Act.put, List.setIfInBounds_toArray, List.set_cons_zero, List.set_cons_succ, i64_w, i32_w]
                                          rfl
                                        refine pure_ (i := 8) (N := some 125) (v := ?_) (a' := ?_) #[true, true, false, true, false, true, true, false, true, false, false, false, false, false, false, false, false, false, false, false, false, false, false, false, false, false, false, false, false, false, false, false, false, false, false, false, false, false, false, false, false, false] rfl rfl (any_of HT_.out (by kernel_rfl)) (fun _ _ _ h => h) (Or.inl ⟨by rfl, ?_⟩) ?_ ?_
                                        rotate_left
                                        · intro w'
                                          go_simp
                                          with_reducible rfl
                                        rotate_left
                                        · simp only [Act.put, List.setIfInBounds_toArray, List.set_cons_zero, List.set_cons_succ, i64_w, i32_w]
                                          rfl
                                        refine pure_ (i := 10) (N := some 127) (v := ?_) (a' := ?_) #[true, true, false, true, false, true, true, false, true, false, true, false, false, false, false, false, false, false, false, false, false, false, false, false, false, false, false, false, false, false, false, false, false, false, false, false, false, false, false, false, false, false] rfl rfl (any_of HT_.out (by kernel_rfl)) (fun _ _ _ h => h) (Or.inl ⟨by rfl, ?_⟩) ?_ ?_
                                        rotate_left
                                        · intro w'
                                          go_simp
                                          with_reducible rfl
                                        rotate_left
                                        · simp only [Act.put, List.setIfInBounds_toArray, List.set_cons_zero, List.set_cons_succ, i64_w, i32_w]
                                          rfl
                                        refine pure_ (i := 11) (N := some 128) (v := ?_) (a' := ?_) #[true, true, false, true, false, true, true, false, true, false, true, true, false, false, false, false, false, false, false, false, false, false, false, false, false, false, false, false, false, false, false, false, false, false, false, false, false, false, false, false, false, false] rfl rfl (any_of HT_.out (by kernel_rfl)) (fun _ _ _ h => h) (Or.inl ⟨by rfl, ?_⟩) ?_ ?_
                                        rotate_left
                                        · intro w'
                                          go_simp
                                          with_reducible rfl
                                        rotate_left
                                        · simp only [Act.put, List.setIfInBounds_toArray, List.set_cons_zero, List.set_cons_succ, i64_w, i32_w]
                                          rfl
                                        refine pure_ (i := 13) (N := some 130) (v := ?_) (a' := ?_) #[true, true, false, true, false, true, true, false, true, false, true, true, false, true, false, false, false, false, false, false, false, false, false, false, false, false, false, false, false, false, false, false, false, false, false, false, false, false, false, false, false, false] rfl rfl (any_of HT_.out (by kernel_rfl)) (fun _ _ _ h => h) (Or.inl ⟨by rfl, ?_⟩) ?_ ?_
                                        rotate_left
                                        · intro w'
                                          go_simp
                                          with_reducible rfl
                                        rotate_left
                                        · simp only [Act.put, List.setIfInBounds_toArray, List.set_cons_zero, List.set_cons_succ, i64_w, i32_w]
                                          rfl
                                        refine pure_ (i := 15) (N := some 132) (v := ?_) (a' := ?_) #[true, true, false, true, false, true, true, false, true, false, true, true, false, true, false, true, false, false, false, false, false, false, false, false, false, false, false, false, false, false, false, false, false, false, false, false, false, false, false, false, false, false] rfl rfl (any_of HT_.out (by kernel_rfl)) (fun _ _ _ h => h) (Or.inl ⟨by rfl, ?_⟩) ?_ ?_
                                        rotate_left
                                        · intro w'
                                          go_simp
                                          with_reducible rfl
                                        rotate_left
                                        · simp only [Act.put, List.setIfInBounds_toArray, List.set_cons_zero, List.set_cons_succ, i64_w, i32_w]
                                          rfl
                                        refine pure_ (i := 16) (N := some 133) (v := ?_) (a' := ?_) #[true, true, false, true, false, true, true, false, true, false, true, true, false, true, false, true, true, false, false, false, false, false, false, false, false, false, false, false, false, false, false, false, false, false, false, false, false, false, false, false, false, false] rfl rfl (any_of HT_.out (by kernel_rfl)) (fun _ _ _ h => h) (Or.inl ⟨by rfl, ?_⟩) ?_ ?_
                                        rotate_left
                                        · intro w'
                                          go_simp
                                          with_reducible rfl
                                        rotate_left
                                        · simp only [Act.put, List.setIfInBounds_toArray, List.set_cons_zero, List.set_cons_succ, i64_w, i32_w]
                                          rfl
                                        refine pure_ (i := 18) (N := some 135) (v := ?_) (a' := ?_) #[true, true, false, true, false, true, true, false, true, false, true, true, false, true, false, true, true, false, true, false, false, false, false, false, false, false, false, false, false, false, false, false, false, false, false, false, false, false, false, false, false, false] rfl rfl (any_of HT_.out (by kernel_rfl)) (fun _ _ _ h => h) (Or.inl ⟨by rfl, ?_⟩) ?_ ?_
                                        rotate_left
                                        · intro w'
                                          go_simp
                                          with_reducible rfl
                                        rotate_left
                                        · simp only [Act.put, List.setIfInBounds_toArray, List.set_cons_zero, List.set_cons_succ, i64_w, i32_w]
                                          rfl
                                        refine pure_ (i := 20) (N := some 137) (v := ?_) (a' := ?_) #[true, true, false, true, false, true, true, false, true, false, true, true, false, true, false, true, true, false, true, false, true, false, false, false, false, false, false, false, false, false, false, false, false, false, false, false, false, false, false, false, false, false] rfl rfl (any_of HT_.out (by kernel_rfl)) (fun _ _ _ h => h) (Or.inl ⟨by rfl, ?_⟩) ?_ ?_
                                        rotate_left
                                        · intro w'
                                          go_simp
                                          with_reducible rfl
                                        rotate_left
                                        · simp only [Act.put, List.setIfInBounds_toArray, List.set_cons_zero, List.set_cons_succ, i64_w, i32_w]
                                          rfl
                                        refine pure_ (i := 21) (N := some 138) (v := ?_) (a' := ?_) #[true, true, false, true, false, true, true, false, true, false, true, true, false, true, false, true, true, false, true, false, true, true, false, false, false, false, false, false, false, false, false, false, false, false, false, false, false, false, false, false, false, false] rfl rfl (any_of HT_.out (by kernel_rfl)) (fun _ _ _ h => h) (Or.inl ⟨by rfl, ?_⟩) ?_ ?_
                                        rotate_left
                                        · intro w'
                                          go_simp
                                          with_reducible rfl
                                        rotate_left
                                        · simp only [Act.put, List.setIfInBounds_toArray, List.set_cons_zero, List.set_cons_succ, i64_w, i32_w]
                                          rfl
                                        refine pure_ (i := 23) (N := some 140) (v := ?_) (a' := ?_) #[true, true, false, true, false, true, true, false, true, false, true, true, false, true, false, true, true, false, true, false, true, true, false, true, false, false, false, false, false, false, false, false, false, false, false, false, false, false, false, false, false, false] rfl rfl (any_of HT_.out (by kernel_rfl)) (fun _ _ _ h => h) (Or.inl ⟨by rfl, ?_⟩) ?_ ?_
                                        rotate_left
                                        · intro w'
                                          go_simp
                                          with_reducible rfl
                                        rotate_left
                                        · simp only [Act.put, List.setIfInBounds_toArray, List.set_cons_zero, List.set_cons_succ, i64_w, i32_w]
                                          rfl
                                        refine pure_ (i := 25) (N := some 142) (v := ?_) (a' := ?_) #[true, true, false, true, false, true, true, false, true, false, true, true, false, true, false, true, true, false, true, false, true, true, false, true, false, true, false, false, false, false, false, false, false, false, false, false, false, false, false, false, false, false] rfl rfl (any_of HT_.out (by kernel_rfl)) (fun _ _ _ h => h) (Or.inl ⟨by rfl, ?_⟩) ?_ ?_
                                        rotate_left
                                        · intro w'
                                          go_simp
                                          with_reducible rfl
                                        rotate_left
                                        · simp only [Act.put, List.setIfInBounds_toArray, List.set_cons_zero, List.set_cons_succ, i64_w, i32_w]
                                          rfl
                                        refine pure_ (i := 26) (N := some 143) (v := ?_) (a' := ?_) #[true, true, false, true, false, true, true, false, true, false, true, true, false, true, false, true, true, false, true, false, true, true, false, true, false, true, true, false, false, false, false, false, false, false, false, false, false, false, false, false, false, false] rfl rfl (any_of HT_.out (by kernel_rfl)) (fun _ _ _ h => h) (Or.inl ⟨by rfl, ?_⟩) ?_ ?_
                                        rotate_left
                                        · intro w'
                                          go_simp
                                          with_reducible rfl
                                        rotate_left
                                        · simp only [Act.put, List.setIfInBounds_toArray, List.set_cons_zero, List.set_cons_succ, i64_w, i32_w]
                                          rfl
                                        refine pure_ (i := 28) (N := some 145) (v := ?_) (a' := ?_) #[true, true, false, true, false, true, true, false, true, false, true, true, false, true, false, true, true, false, true, false, true, true, false, true, false, true, true, false, true, false, false, false, false, false, false, false, false, false, false, false, false, false] rfl rfl (any_of HT_.out (by kernel_rfl)) (fun _ _ _ h => h) (Or.inl ⟨by rfl, ?_⟩) ?_ ?_
                                        rotate_left
                                        · intro w'
                                          go_simp
                                          with_reducible rfl
                                        rotate_left
                                        · simp only [Act.put, List.setIfInBounds_toArray, List.set_cons_zero, List.set_cons_succ, i64_w, i32_w]
                                          rfl
                                        refine pure_ (i := 30) (N := some 147) (v := ?_) (a' := ?_) #[true, true, false, true, false, true, true, false, true, false, true, true, false, true, false, true, true, false, true, false, true, true, false, true, false, true, true, false, true, false, true, false, false, false, false, false, false, false, false, false, false, false] rfl rfl (any_of HT_.out (by kernel_rfl)) (fun _ _ _ h => h) (Or.inl ⟨by rfl, ?_⟩) ?_ ?_
                                        rotate_left
                                        · intro w'
                                          go_simp
                                          with_reducible rfl
                                        rotate_left
                                        · simp only [Act.put, List.setIfInBounds_toArray, List.set_cons_zero, List.set_cons_succ, i64_w, i32_w]
                                          rfl
                                        refine pure_ (i := 31) (N := some 148) (v := ?_) (a' := ?_) #[true, true, false, true, false, true, true, false, true, false, true, true, false, true, false, true, true, false, true, false, true, true, false, true, false, true, true, false, true, false, true, true, false, false, false, false, false, false, false, false, false, false] rfl rfl (any_of HT_.out (by kernel_rfl)) (fun _ _ _ h => h) (Or.inl ⟨by rfl, ?_⟩) ?_ ?_
                                        rotate_left
                                        · intro w'
                                          go_simp
                                          with_reducible rfl
                                        rotate_left
                                        · simp only [Act.put, List.setIfInBounds_toArray, List.set_cons_zero, List.set_cons_succ, i64_w, i32_w]
                                          rfl
                                        refine pure_ (i := 33) (N := some 150) (v := ?_) (a' := ?_) #[true, true, false, true, false, true, true, false, true, false, true, true, false, true, false, true, true, false, true, false, true, true, false, true, false, true, true, false, true, false, true, true, false, true, false, false, false, false, false, false, false, false] rfl rfl (any_of HT_.out (by kernel_rfl)) (fun _ _ _ h => h) (Or.inl ⟨by rfl, ?_⟩) ?_ ?_
                                        rotate_left
                                        · intro w'
                                          go_simp
                                          with_reducible rfl
                                        rotate_left
                                        · simp only [Act.put, List.setIfInBounds_toArray, List.set_cons_zero, List.set_cons_succ, i64_w, i32_w]
                                          rfl
                                        refine pure_ (i := 35) (N := some 152) (v := ?_) (a' := ?_) #[true, true, false, true, false, true, true, false, true, false, true, true, false, true, false, true, true, false, true, false, true, true, false, true, false, true, true, false, true, false, true, true, false, true, false, true, false, false, false, false, false, false] rfl rfl (any_of HT_.out (by kernel_rfl)) (fun _ _ _ h => h) (Or.inl ⟨by rfl, ?_⟩) ?_ ?_
                                        rotate_left
                                        · intro w'
                                          go_simp
                                          with_reducible rfl
                                        rotate_left
                                        · simp only [Act.put, List.setIfInBounds_toArray, List.set_cons_zero, List.set_cons_succ, i64_w, i32_w]
                                          rfl
                                        refine pure_ (i := 36) (N := some 153) (v := ?_) (a' := ?_) #[true, true, false, true, false, true, true, false, true, false, true, true, false, true, false, true, true, false, true, false, true, true, false, true, false, true, true, false, true, false, true, true, false, true, false, true, true, false, false, false, false, false] rfl rfl (any_of HT_.out (by kernel_rfl)) (fun _ _ _ h => h) (Or.inl ⟨by rfl, ?_⟩) ?_ ?_
                                        rotate_left
                                        · intro w'
                                          go_simp
                                          with_reducible rfl
                                        rotate_left
                                        · simp only [Act.put, List.setIfInBounds_toArray, List.set_cons_zero, List.set_cons_succ, i64_w, i32_w]
                                          rfl
                                        refine pure_ (i := 38) (N := some 155) (v := ?_) (a' := ?_) #[true, true, false, true, false, true, true, false, true, false, true, true, false, true, false, true, true, false, true, false, true, true, false, true, false, true, true, false, true, false, true, true, false, true, false, true, true, false, true, false, false, false] rfl rfl (any_of HT_.out (by kernel_rfl)) (fun _ _ _ h => h) (Or.inl ⟨by rfl, ?_⟩) ?_ ?_
                                        rotate_left
                                        · intro w'
                                          go_simp
                                          with_reducible rfl
                                        rotate_left
                                        · simp only [Act.put, List.setIfInBounds_toArray, List.set_cons_zero, List.set_cons_succ, i64_w, i32_w]
                                          rfl
                                        refine take_ (i := 2) (N := some 119) (v := ?_) (a' := ?_) #[true, true, true, true, false, true, true, false, true, false, true, true, false, true, false, true, true, false, true, false, true, true, false, true, false, true, true, false, true, false, true, true, false, true, false, true, true, false, true, false, false, false] rfl rfl (take_ofW HT_.out HW_.out (by kernel_rfl)) (fun _ _ _ h => h) (Or.inl ⟨by rfl, ?_⟩) hHeld ?_ ?_
                                        rotate_left
                                        · rintro w' ⟨s0, s1, s2, s3, s4, s5, s6, s7⟩
                                          go_simp
                                          with_reducible rfl
                                        rotate_left
                                        · simp only [Act.put, List.setIfInBounds_toArray, List.set_cons_zero, List.set_cons_succ, i64_w, i32_w]
                                          rfl
                                        refine pure_ (i := 4) (N := some 121) (v := ?_) (a' := ?_) #[true, true, true, true, true, true, true, false, true, false, true, true, false, true, false, true, true, false, true, false, true, true, false, true, false, true, true, false, true, false, true, true, false, true, false, true, true, false, true, false, false, false] rfl rfl (any_of HT_.out (by kernel_rfl)) (fun _ _ _ h => h) (Or.inl ⟨by rfl, ?_⟩) ?_ ?_
                                        rotate_left
                                        · intro w'
                                          go_simp
                                          with_reducible rfl
                                        rotate_left
                                        · simp only [Act.put, List.setIfInBounds_toArray, List.set_cons_zero, List.set_cons_succ, i64_w, i32_w]
                                          rfl
                                        refine take_ (i := 7) (N := some 124) (v := ?_) (a' := ?_) #[true, true, true, true, true, true, true, true, true, false, true, true, false, true, false, true, true, false, true, false, true, true, false, true, false, true, true, false, true, false, true, true, false, true, false, true, true, false, true, false, false, false] rfl rfl (take_ofW HT_.out HW_.out (by kernel_rfl)) (fun _ _ _ h => h) (Or.inl ⟨by rfl, ?_⟩) hHeld ?_ ?_
                                        rotate_left
                                        · rintro w' ⟨s0, s1, s2, s3, s4, s5, s6, s7⟩
                                          go_simp
                                          with_reducible rfl
                                        rotate_left
                                        · simp only [Act.put, List.setIfInBounds_toArray, List.set_cons_zero, List.set_cons_succ, i64_w, i32_w]
                                          rfl
                                        refine pure_ (i := 9) (N := some 126) (v := ?_) (a' := ?_) #[true, true, true, true, true, true, true, true, true, true, true, true, false, true, false, true, true, false, true, false, true, true, false, true, false, true, true, false, true, false, true, true, false, true, false, true, true, false, true, false, false, false] rfl rfl (any_of HT_.out (by kernel_rfl)) (fun _ _ _ h => h) (Or.inl ⟨by rfl, ?_⟩) ?_ ?_
                                        rotate_left
                                        · intro w'
                                          go_simp
                                          with_reducible rfl
                                        rotate_left
                                        · simp only [Act.put, List.setIfInBounds_toArray, List.set_cons_zero, List.set_cons_succ, i64_w, i32_w]
                                          rfl
                                        refine take_ (i := 12) (N := some 129) (v := ?_) (a' := ?_) #[true, true, true, true, true, true, true, true, true, true, true, true, true, true, false, true, true, false, true, false, true, true, false, true, false, true, true, false, true, false, true, true, false, true, false, true, true, false, true, false, false, false] rfl rfl (take_ofW HT_.out HW_.out (by kernel_rfl)) (fun _ _ _ h => h) (Or.inl ⟨by rfl, ?_⟩) hHeld ?_ ?_
                                        rotate_left
                                        · rintro w' ⟨s0, s1, s2, s3, s4, s5, s6, s7⟩
                                          go_simp
                                          with_reducible rfl
                                        rotate_left
                                        · simp only [Act.put, List.setIfInBounds_toArray, List.set_cons_zero, List.set_cons_succ, i64_w, i32_w]
                                          rfl
                                        refine pure_ (i := 14) (N := some 131) (v := ?_) (a' := ?_) #[true, true, true, true, true, true, true, true, true, true, true, true, true, true, true, true, true, false, true, false, true, true, false, true, false, true, true, false, true, false, true, true, false, true, false, true, true, false, true, false, false, false] rfl rfl (any_of HT_.out (by kernel_rfl)) (fun _ _ _ h => h) (Or.inl ⟨by rfl, ?_⟩) ?_ ?_
                                        rotate_left
                                        · intro w'
                                          go_simp
                                          with_reducible rfl
                                        rotate_left
                                        · simp only [Act.put, List.setIfInBounds_toArray, List.set_cons_zero, List.set_cons_succ, i64_w, i32_w]
                                          rfl
                                        refine take_ (i := 17) (N := some 134) (v := ?_) (a' := ?_) #[true, true, true, true, true, true, true, true, true, true, true, true, true, true, true, true, true, true, true, false, true, true, false, true, false, true, true, false, true, false, true, true, false, true, false, true, true, false, true, false, false, false] rfl rfl (take_ofW HT_.out HW_.out (by kernel_rfl)) (fun _ _ _ h => h) (Or.inl ⟨by rfl, ?_⟩) hHeld ?_ ?_
                                        rotate_left
                                        · rintro w' ⟨s0, s1, s2, s3, s4, s5, s6, s7⟩
                                          go_simp
                                          with_reducible rfl
                                        rotate_left
                                        · simp only [Act.put, List.setIfInBounds_toArray, List.set_cons_zero, List.set_cons_succ, i64_w, i32_w]
                                          rfl
                                        refine pure_ (i := 19) (N := some 136) (v := ?_) (a' := ?_) #[true, true, true, true, true, true, true, true, true, true, true, true, true, true, true, true, true, true, true, true, true, true, false, true, false, true, true, false, true, false, true, true, false, true, false, true, true, false, true, false, false, false] rfl rfl (any_of HT_.out (by kernel_rfl)) (fun _ _ _ h => h) (Or.inl ⟨by rfl, ?_⟩) ?_ ?_
                                        rotate_left
                                        · intro w'
                                          go_simp
                                          with_reducible rfl
                                        rotate_left
                                        · simp only [Act.put, List.setIfInBounds_toArray, List.set_cons_zero, List.set_cons_succ, i64_w, i32_w]
                                          rfl
                                        refine take_ (i := 22) (N := some 139) (v := ?_) (a' := ?_) #[true, true, true, true, true, true, true, true, true, true, true, true, true, true, true, true, true, true, true, true, true, true, true, true, false, true, true, false, true, false, true, true, false, true, false, true, true, false, true, false, false, false] rfl rfl (take_ofW HT_.out HW_.out (by kernel_rfl)) (fun _ _ _ h => h) (Or.inl ⟨by rfl, ?_⟩) hHeld ?_ ?_
                                        rotate_left
                                        · rintro w' ⟨s0, s1, s2, s3, s4, s5, s6, s7⟩
                                          go_simp
                                          with_reducible rfl
                                        rotate_left
                                        · simp only [Act.put, List.setIfInBounds_toArray, List.set_cons_zero, List.set_cons_succ, i64_w, i32_w]
                                          rfl
                                        refine pure_ (i := 24) (N := some 141) (v := ?_) (a' := ?_) #[true, true, true, true, true, true, true, true, true, true, true, true, true, true, true, true, true, true, true, true, true, true, true, true, true, true, true, false, true, false, true, true, false, true, false, true, true, false, true, false, false, false] rfl rfl (any_of HT_.out (by kernel_rfl)) (fun _ _ _ h => h) (Or.inl ⟨by rfl, ?_⟩) ?_ ?_
                                        rotate_left
                                        · intro w'
                                          go_simp
                                          with_reducible rfl
                                        rotate_left
                                        · simp only [Act.put, List.setIfInBounds_toArray, List.set_cons_zero, List.set_cons_succ, i64_w, i32_w]
                                          rfl
                                        refine take_ (i := 27) (N := some 144) (v := ?_) (a' := ?_) #[true, true, true, true, true, true, true, true, true, true, true, true, true, true, true, true, true, true, true, true, true, true, true, true, true, true, true, true, true, false, true, true, false, true, false, true, true, false, true, false, false, false] rfl rfl (take_ofW HT_.out HW_.out (by kernel_rfl)) (fun _ _ _ h => h) (Or.inl ⟨by rfl, ?_⟩) hHeld ?_ ?_
                                        rotate_left
                                        · rintro w' ⟨s0, s1, s2, s3, s4, s5, s6, s7⟩
                                          go_simp
                                          with_reducible rfl
                                        rotate_left
                                        · simp only [Act.put, List.setIfInBounds_toArray, List.set_cons_zero, List.set_cons_succ, i64_w, i32_w]
                                          rfl
                                        refine pure_ (i := 29) (N := some 146) (v := ?_) (a' := ?_) #[true, true, true, true, true, true, true, true, true, true, true, true, true, true, true, true, true, true, true, true, true, true, true, true, true, true, true, true, true, true, true, true, false, true, false, true, true, false, true, false, false, false] rfl rfl (any_of HT_.out (by kernel_rfl)) (fun _ _ _ h => h) (Or.inl ⟨by rfl, ?_⟩) ?_ ?_
                                        rotate_left
                                        · intro w'
                                          go_simp
                                          with_reducible rfl
                                        rotate_left
                                        · simp only [Act.put, List.setIfInBounds_toArray, List.set_cons_zero, List.set_cons_succ, i64_w, i32_w]
                                          rfl
                                        refine take_ (i := 32) (N := some 149) (v := ?_) (a' := ?_) #[true, true, true, true, true, true, true, true, true, true, true, true, true, true, true, true, true, true, true, true, true, true, true, true, true, true, true, true, true, true, true, true, true, true, false, true, true, false, true, false, false, false] rfl rfl (take_ofW HT_.out HW_.out (by kernel_rfl)) (fun _ _ _ h => h) (Or.inl ⟨by rfl, ?_⟩) hHeld ?_ ?_
                                        rotate_left
                                        · rintro w' ⟨s0, s1, s2, s3, s4, s5, s6, s7⟩
                                          go_simp
                                          with_reducible rfl
                                        rotate_left
                                        · simp only [Act.put, List.setIfInBounds_toArray, List.set_cons_zero, List.set_cons_succ, i64_w, i32_w]
                                          rfl
                                        refine pure_ (i := 34) (N := some 151) (v := ?_) (a' := ?_) #[true, true, true, true, true, true, true, true, true, true, true, true, true, true, true, true, true, true, true, true, true, true, true, true, true, true, true, true, true, true, true, true, true, true, true, true, true, false, true, false, false, false] rfl rfl (any_of HT_.out (by kernel_rfl)) (fun _ _ _ h => h) (Or.inl ⟨by rfl, ?_⟩) ?_ ?_
                                        rotate_left
                                        · intro w'
                                          go_simp
                                          with_reducible rfl
                                        rotate_left
                                        · simp only [Act.put, List.setIfInBounds_toArray, List.set_cons_zero, List.set_cons_succ, i64_w, i32_w]
                                          rfl
                                        refine take_ (i := 37) (N := some 154) (v := ?_) (a' := ?_) #[true, true, true, true, true, true, true, true, true, true, true, true, true, true, true, true, true, true, true, true, true, true, true, true, true, true, true, true, true, true, true, true, true, true, true, true, true, true, true, false, false, false] rfl rfl (take_ofW HT_.out HW_.out (by kernel_rfl)) (fun _ _ _ h => h) (Or.inl ⟨by rfl, ?_⟩) hHeld ?_ ?_
                                        rotate_left
                                        · rintro w' ⟨s0, s1, s2, s3, s4, s5, s6, s7⟩
                                          go_simp
                                          with_reducible rfl
                                        rotate_left
                                        · simp only [Act.put, List.setIfInBounds_toArray, List.set_cons_zero, List.set_cons_succ, i64_w, i32_w]
                                          rfl
                                        refine pure_ (i := 39) (N := some 156) (v := ?_) (a' := ?_) #[true, true, true, true, true, true, true, true, true, true, true, true, true, true, true, true, true, true, true, true, true, true, true, true, true, true, true, true, true, true, true, true, true, true, true, true, true, true, true, true, false, false] rfl rfl (any_of HT_.out (by kernel_rfl)) (fun _ _ _ h => h) (Or.inl ⟨by rfl, ?_⟩) ?_ ?_
                                        rotate_left
                                        · intro w'
                                          go_simp
                                          with_reducible rfl
                                        rotate_left
                                        · simp only [Act.put, List.setIfInBounds_toArray, List.set_cons_zero, List.set_cons_succ, i64_w, i32_w]
                                          rfl
                                        refine one_ (i := 40) (N := some 157) #[true, true, true, true, true, true, true, true, true, true, true, true, true, true, true, true, true, true, true, true, true, true, true, true, true, true, true, true, true, true, true, true, true, true, true, true, true, true, true, true, true, false] rfl rfl (one_of HT_.out (by kernel_rfl)) (by decide) (fun K hK => ?_)
                                        refine Kd.R_lit_step (Kd.int .u32) _ 91 ?hg (N := 157) ?hd (xs := ([((rd l1 0) + x8_1) % 4294967296, ((rd l1 1) + x9_1) % 4294967296, ((rd l1 2) + x10_1) % 4294967296, ((rd l1 3) + x11_1) % 4294967296, ((rd l1 4) + x12_1) % 4294967296, ((rd l1 5) + x13_1) % 4294967296, ((rd l1 6) + x14_1) % 4294967296, ((rd l1 7) + x15_1) % 4294967296] : List Int)) (inner := [.int .u32 (((rd l1 0) + x8_1) % 4294967296), .int .u32 (((rd l1 1) + x9_1) % 4294967296), .int .u32 (((rd l1 2) + x10_1) % 4294967296), .int .u32 (((rd l1 3) + x11_1) % 4294967296), .int .u32 (((rd l1 4) + x12_1) % 4294967296), .int .u32 (((rd l1 5) + x13_1) % 4294967296), .int .u32 (((rd l1 6) + x14_1) % 4294967296), .int .u32 (((rd l1 7) + x15_1) % 4294967296)]) (ok := fun _ => True) (okp := fun _ => True) ?hr ?hp (fun _ hk => hk) trivial (Below.refl _ _) (Nat.le_refl _) (by simp) ?_; (case hd => rfl); (case hg => rfl); (case hr => first | (go_simp; done) | (go_simp; rfl)); (case hp => exact (Reps.one (show Kd.M (Kd.int .u32) _ _ _ (((rd l1 0) + x8_1) % 4294967296) [.int .u32 (((rd l1 0) + x8_1) % 4294967296)] from rfl) (Reps.one (show Kd.M (Kd.int .u32) _ _ _ (((rd l1 1) + x9_1) % 4294967296) [.int .u32 (((rd l1 1) + x9_1) % 4294967296)] from rfl) (Reps.one (show Kd.M (Kd.int .u32) _ _ _ (((rd l1 2) + x10_1) % 4294967296) [.int .u32 (((rd l1 2) + x10_1) % 4294967296)] from rfl) (Reps.one (show Kd.M (Kd.int .u32) _ _ _ (((rd l1 3) + x11_1) % 4294967296) [.int .u32 (((rd l1 3) + x11_1) % 4294967296)] from rfl) (Reps.one (show Kd.M (Kd.int .u32) _ _ _ (((rd l1 4) + x12_1) % 4294967296) [.int .u32 (((rd l1 4) + x12_1) % 4294967296)] from rfl) (Reps.one (show Kd.M (Kd.int .u32) _ _ _ (((rd l1 5) + x13_1) % 4294967296) [.int .u32 (((rd l1 5) + x13_1) % 4294967296)] from rfl) (Reps.one (show Kd.M (Kd.int .u32) _ _ _ (((rd l1 6) + x14_1) % 4294967296) [.int .u32 (((rd l1 6) + x14_1) % 4294967296)] from rfl) (Reps.one (show Kd.M (Kd.int .u32) _ _ _ (((rd l1 7) + x15_1) % 4294967296) [.int .u32 (((rd l1 7) + x15_1) % 4294967296)] from rfl) (Reps.none _ _))))))))))
                                        intro v203 w41 ho42 hb hg_ hnew_
                                        clear hg_ hnew_
                                        (first | rw [← Ny202.out] at ho42 | (simp only [Int.reduceToNat] at ho42; rw [← Ny202.out] at ho42))
                                        have n0_ := Aside0.mk (Kd.R_elder' (by (with_reducible repeat (first | apply Kd.R_alloc | apply Kd.R_drewN | apply Kd.R_drew)); exact HO_7.out) (Kd.R_base ho42) hb)
                                        have n1_ := Aside0.mk (Kd.R_lower (Kd.R_new' ho42 (Kd.R_lt (by (with_reducible repeat (first | apply Kd.R_alloc | apply Kd.R_drewN | apply Kd.R_drew)); exact HO_7.out))) (below_size (by repeat (first | (with_reducible first | exact HB.out | apply below_alloc | apply pw_below_drewN | apply below_drew1 | refine below_set ?_ GE182.out) | exact HB.out))))
                                        have n2_ := Aside0.mk (blk_below (g := gb182) (o := .cells #[.slice A0_0 l0_0.length c0_0, .slice A0_1 l0_1.length c0_1] 37 (0, 0)) (by (with_reducible repeat (first | refine blk_drewN ?_ _ | refine blk_drew ?_ | refine blk_alloc ?_ _)); exact BK182.out) hb)
                                        have n3_ := Aside0.mk (below_step (by repeat (first | (with_reducible first | exact HB.out | apply below_alloc | apply pw_below_drewN | apply below_drew1 | refine below_set ?_ GE182.out) | exact HB.out)) hb)
                                        clear HO_7
                                        clear BK182
                                        clear HB
                                        have HO_7 := n0_
                                        have HO204 := n1_
                                        have BK182 := n2_
                                        have HB := n3_
                                        clear n0_ n1_ n2_ n3_
                                        clear hb ho42
                                        refine hK.out _ _ ⟨((HB.out.cell (World.block_lt_of_cell? w _ hw194_0)).trans hw194_0), ((HB.out.cell (World.block_lt_of_cell? w _ hw195_0)).trans hw195_0), ((HB.out.cell (World.block_lt_of_cell? w _ hw196_0)).trans hw196_0), ((HB.out.cell (World.block_lt_of_cell? w _ hw197_0)).trans hw197_0), ((HB.out.cell (World.block_lt_of_cell? w _ hw198_0)).trans hw198_0), ((HB.out.cell (World.block_lt_of_cell? w _ hw199_0)).trans hw199_0), ((HB.out.cell (World.block_lt_of_cell? w _ hw200_0)).trans hw200_0), ((HB.out.cell (World.block_lt_of_cell? w _ hw201_0)).trans hw201_0)⟩ (fun hHeld => ?_)
                                        clear hK K
                                        refine norm_ (a' := ?_) ?_ ?_
                                        rotate_left
                                        · show Act.put _ (some 157) _ = _
                                          simp only [Act.put, List.setIfInBounds_toArray, List.set_cons_zero, List.set_cons_succ, i64_w, i32_w]
                                          rfl
                                        refine pure_ (i := 41) (N := some 6) (v := ?_) (a' := ?_) #[true, true, true, true, true, true, true, true, true, true, true, true, true, true, true, true, true, true, true, true, true, true, true, true, true, true, true, true, true, true, true, true, true, true, true, true, true, true, true, true, true, true] rfl rfl (any_of HT_.out (by kernel_rfl)) (fun _ _ _ h => h) (Or.inl ⟨by rfl, ?_⟩) ?_ ?_
                                        rotate_left
                                        · intro w'
                                          go_simp
                                          with_reducible rfl
                                        rotate_left
                                        · simp only [Act.put, List.setIfInBounds_toArray, List.set_cons_zero, List.set_cons_succ, i64_w, i32_w]
                                          rfl
                                        refine done_ (done_of HT_.out (by kernel_rfl)) ?_
                                        try go_wp2
                                        go_ret
                                        exact ⟨_, by first | rfl | (simp [errW_none, errW_some] <;> rfl) | (simp [*, errW_none, errW_some] <;> rfl), by (with_reducible repeat (first | apply Kd.R_alloc | apply Kd.R_drewN | apply Kd.R_drew)); exact Kd.R_mono HO204.out (fun _ hk => trivial), by repeat (first | (with_reducible first | exact HB.out | apply below_alloc | apply pw_below_drewN | apply below_drew1 | refine below_set ?_ GE182.out) | exact HB.out)⟩
                                      · rw [if_neg c39] at H
                                        exact absurd H (by simp)
                                    · rw [if_neg c38] at H
                                      exact absurd H (by simp)
                                  · rw [if_neg c37] at H
                                    exact absurd H (by simp)
                                · rw [if_neg c36] at H
                                  exact absurd H (by simp)
                              · rw [if_neg c35] at H
                                exact absurd H (by simp)
                            · rw [if_neg c34] at H
                              exact absurd H (by simp)
                          · rw [if_neg c33] at H
                            exact absurd H (by simp)
                        · rw [if_neg c32] at H
                          exact absurd H (by simp)
                · rw [if_neg c11] at H
                  exact absurd H (by simp)
              · rw [if_neg c10] at H
                exact absurd H (by simp)
            · rw [if_neg c9] at H
              exact absurd H (by simp)
          · rw [if_neg c8] at H
            exact absurd H (by simp)
        · rw [if_neg c7] at H
          exact absurd H (by simp)
      · rw [if_neg c6] at H
        exact absurd H (by simp)
    · rw [if_neg c5] at H
      exact absurd H (by simp)
  · rw [if_neg c4] at H
    exact absurd H (by simp)

end Go.Proofs.YtpafocjmheemjaaDoor.PDigestSums

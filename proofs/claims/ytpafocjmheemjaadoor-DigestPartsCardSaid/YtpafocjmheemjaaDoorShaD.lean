import Derived.Test.YtpafocjmheemjaaDoorShaC
set_option linter.unusedSimpArgs false
namespace Go.Proofs.YtpafocjmheemjaaDoor
open Go.RowKit Go.Proofs.YtpafocjmheemjaaDoorW.PrintWords
/-- the rounds' keys lie where the program lays them -/
def KeysAt (w : World) : Prop := ∃ t fr, w.heap[0]? = some (.cells keysA t fr)
theorem KeysAt.up {w w1 : World} (h : KeysAt w) (hg : Gr w w1) : KeysAt w1 := by
  obtain ⟨t, fr, h⟩ := h
  exact ⟨t, fr, (hg.block _ (Array.getElem?_eq_some_iff.1 h).1).trans h⟩
theorem keys_index (t : Nat) (ht : t < 64) (W : World) : (Instr.index 142 (.agg keysA) (.int .i64 (t : Int))).run Tryd.prog W = .ok (u32 (keyF t)) W := by
  have hk := keys_get t ht
  have h1 : (t : Int) < 64 := by omega
  have h0 : (0 : Int) ≤ (t : Int) := by omega
  have hi : (Tryd.prog.info? 91).map (fun i => (i.size, (match i.desc with | .struct _ | .array _ _ => true | _ => false))) = some (1, false) := by kernel_rfl
  obtain ⟨i, hi1, hi2⟩ := Option.map_eq_some_iff.1 hi
  simp only [Prod.mk.injEq] at hi2
  have hz := hi2.1
  unfold Instr.index
  simp [asIntOf, run_underlying Tryd.underlying142, run_underlying Tryd.underlying91, h0, h1, sizeOf, typeInfo, hi1, hz, part, isAgg, hk]
  intro h; omega
attribute [local irreducible] Calls mixF
attribute [local go_sem] un_or un_xor un_and un_add un_shl8 un_byw un_shl8w un_addw
set_option maxHeartbeats 4000000 in
set_option maxRecDepth 100000 in
theorem mixed_any (v : Nat → W32) (b : ByteArray) (hb : b.size = 64) (w : World) (hK : KeysAt w) :
    Calls Tryd.prog 84 #[.agg (arr8 v), .string b] w fun e w' => e = .returned (.agg (arr8 (mixF v b))) ∧ Below w.heap.size w w' := by
  have Hb := Lib.hid hb
  clear hb
  unfold arr8
  rw [show #[u32 (mixF v b 0), u32 (mixF v b 1), u32 (mixF v b 2), u32 (mixF v b 3), u32 (mixF v b 4), u32 (mixF v b 5), u32 (mixF v b 6), u32 (mixF v b 7)] = arr8 (mixF v b) from rfl]
  go_enter Tryd.func84, Tryd.ntmps84
  go_wp2
  go_loopw [15] (fun c wr => ∃ k : Nat, c = .int .i64 (k : Int) ∧ Aside0 (k ≤ 64) ∧ Own w [(w.heap.size + 2, .cells (arr16 (ldF b k)) 141 (0, 0)), (w.heap.size + 1, .cells (arr8 (fun _ => 0#32)) 130 (0, 0)), (w.heap.size, .cells (arr8 v) 130 (0, 0))] wr) (fun c _ => 64 - (intOf c).toNat)
  case atStart =>
    exact ⟨0, rfl, ⟨by omega⟩, (((Own.start w).alloc' (.cells (arr8 v) 130) rfl).alloc' (.cells (arr8 (fun _ => 0#32)) 130) (by simp)).alloc' (.cells (arr16 (ldF b 0)) 141) (by simp)⟩
  case round =>
    obtain ⟨k, rfl, Hk, HO⟩ := hrel
    by_cases hlt : k < 64
    · have i0 : (0 : Int) ≤ (k : Int) := by omega
      have i1 : (k : Int) < 64 := by omega
      obtain ⟨q, hq, hq1, hq2, hq3⟩ : ∃ q : Nat, (k : Int) / 4 = (q : Int) ∧ q = k / 4 ∧ q < 16 ∧ Int.tdiv (k : Int) 4 = (q : Int) := ⟨k / 4, by omega, rfl, by omega, by rw [Int.tdiv_eq_ediv_of_nonneg (by omega)]; omega⟩
      have q0 : (0 : Int) ≤ (q : Int) := by omega
      have q1 : (q : Int) < 16 := by omega
      have q2 : IntKind.i64.wrap (q : Int) = (q : Int) := IntWalk.i64_in _ (by omega)
      have i2 : (k : Int) < (b.size : Int) := by rw [Hb.out]; omega
      have hQ := Lib.hid hq1
      clear hq1
      go_wp2_with fail
      refine bstart (fun _ => w.heap.size) (n := 14) (ds := [13]) #[false, false, false, false, false, false, false, false, false, false, false, false, false, false] (by kernel_rfl) rfl rfl HO.below.size (fun HBS => ?_)
      refine bseq (m := 1) (.inl rfl) [(0, true, some 18), (1, true, some 19), (2, true, some 20), (3, true, some 21), (4, true, some 22), (7, true, some 25), (8, true, some 26), (9, true, some 27), (10, true, some 28), (5, false, some 23), (6, true, some 24), (11, true, some 29), (12, true, some 30)] #[true, true, true, true, true, true, true, true, true, true, true, true, true, false] HBS (by kernel_rfl) rfl (fun _ _ _ _ _ h => h) ?_
      repeat (first
        | (refine sP (v := ?_) (a' := ?_) rfl rfl (by rfl) ?_ ?_ ?_; rotate_left 2; (· intro w'; go_simp; with_reducible rfl); (· simp only [Act.put, List.setIfInBounds_toArray, List.set_cons_zero, List.set_cons_succ, kw64, kw32]; rfl))
        | (refine sL (v := ?_) (a' := ?_) rfl rfl (by rfl) ?_ ?_ ?_; rotate_left 2; (· intro w1 hg; have c := (HO.up hg).cell 0 rfl q; rw [arr16_get _ q hq2] at c; go_simp; with_reducible rfl); (· simp only [Act.put, List.setIfInBounds_toArray, List.set_cons_zero, List.set_cons_succ, kw64, kw32]; rfl)))
      refine bone (i := 13) (N := none) #[true, true, true, true, true, true, true, true, true, true, true, true, true, true] rfl rfl (by kernel_rfl) HBS (fun w1 hg K hK => ?_)
      rw [if_pos (by rfl)]
      replace HO := HO.up hg
      have c1 := HO.cell 0 rfl q
      rw [arr16_get _ q hq2] at c1
      have f1 := HO.frozen 0 rfl q
      go_simp
      refine hK _ _ (in_ds (by decide) (bel_set (by omega))) (fun HBS => ?_)
      replace HO := HO.set' 0 rfl q (u32 (ldF b k q <<< 8 ||| byW b[k])) (L' := [(w.heap.size + 2, .cells (arr16 (ldF b (k + 1))) 141 (0, 0)), (w.heap.size + 1, .cells (arr8 (fun _ => 0#32)) 130 (0, 0)), (w.heap.size, .cells (arr8 v) 130 (0, 0))]) (by
        have hkb : k < b.size := by omega
        rw [arr16_set _ q hq2, ldF, ← hQ.out, getD_at b k hkb]; rfl)
      clear c1 f1 hg K hK
      revert HO HBS
      generalize World.setCell w1 _ _ = wb
      intro HBS HO
      refine bdone (by kernel_rfl) (fun w1 hg => ?_)
      replace HO := HO.up hg
      clear hg
      go_wp2
      go_roundw
      case rel => exact ⟨k + 1, by go_num, ⟨by omega⟩, HO⟩
      case measure => simp [intOf]; omega
    · obtain rfl : k = 64 := by have := Hk.out; omega
      clear hlt Hk
      have hz := HO.lt 0 rfl
      have HO2 := HO.alloc (.cells (arr8 v) 130)
      obtain ⟨tk, fk, hk⟩ := hK.up HO2.below
      have hle : (b.size : Int) ≤ 64 := by rw [Hb.out]; omega
      go_wp2_with (first | (refine wpList_load_row rfl 130 (.tmp 2) rfl _ (by rfl) _ (arr8 v) _ _ (HO.blk 2 rfl) Tryd.underlying130 rfl (by kernel_rfl) ?_) | (refine wpList_store_row rfl 130 (.tmp 7) (.tmp 32) rfl wr.heap.size (arr8 v) (by rfl) (by rfl) _ _ (heap_alloc_new wr _) (by kernel_rfl) rfl (arr8_one v) ?_; rw [World.setRow_alloc_new]) | (refine wpList_load_row rfl 142 (.global 0) rfl _ (by rfl) _ keysA _ _ hk Tryd.underlying142 rfl (by kernel_rfl) ?_))
      clear hk hle hz
      generalize wr.alloc (.cells (arr8 v) 130) = wq at *
      generalize wr.heap.size = gs at *
      clear HO
      go_loopw [34] (fun c wr => ∃ t : Nat, c = .int .i64 (t : Int) ∧ Aside0 (t ≤ 64) ∧ Own w [(gs, .cells (arr8 (runF (ldF b 64) v t).2) 130 (0, 0)), (w.heap.size + 2, .cells (arr16 (runF (ldF b 64) v t).1) 141 (0, 0)), (w.heap.size + 1, .cells (arr8 (fun _ => 0#32)) 130 (0, 0)), (w.heap.size, .cells (arr8 v) 130 (0, 0))] wr) (fun c _ => 64 - (intOf c).toNat)
      case atStart => exact ⟨0, rfl, ⟨by omega⟩, HO2⟩
      case round =>
        clear HO2
        obtain ⟨t, rfl, Ht, HO⟩ := hrel
        have hR := Lib.hid (show runF (ldF b 64) v (t + 1) = ((if 16 ≤ t then upd (runF (ldF b 64) v t).1 (t % 16) (moreF (runF (ldF b 64) v t).1 t) else (runF (ldF b 64) v t).1), roundF (keyF t) ((if 16 ≤ t then upd (runF (ldF b 64) v t).1 (t % 16) (moreF (runF (ldF b 64) v t).1 t) else (runF (ldF b 64) v t).1) (t % 16)) (runF (ldF b 64) v t).2) from rfl)
        by_cases hlt : t < 64
        · generalize (runF (ldF b 64) v t).1 = f at *
          generalize (runF (ldF b 64) v t).2 = s at *
          generalize hnx : runF (ldF b 64) v (t + 1) = nx at *
          have Hnx := Lib.hid hnx
          clear hnx
          have i0 : (0 : Int) ≤ (t : Int) := by omega
          have i1 : (t : Int) < 64 := by omega
          have a0 := and15 t (by omega)
          have q2 : t % 16 < 16 := Nat.mod_lt _ (by decide)
          generalize t % 16 = q at *
          have q0 : (0 : Int) ≤ (q : Int) := by omega
          have q1 : (q : Int) < 16 := by omega
          have kt := keys_index t hlt
          by_cases h16 : 16 ≤ t
          case' pos =>
            have j0 : (16 : Int) ≤ (t : Int) := by omega
            rw [if_pos h16] at hR
            clear h16
            go_wp2_with (first | (refine wpList_load_row rfl 141 (.tmp 5) rfl _ (by rfl) _ (arr16 f) _ _ (HO.blk 1 rfl) Tryd.underlying141 rfl (by kernel_rfl) ?_) | (refine (more_any f t hlt _).mono ?_; rintro e w1 ⟨rfl, hb⟩; replace HO := HO.up hb; clear hb; have c1 := HO.cell 1 rfl q; rw [arr16_get _ q q2] at c1; have f1 := HO.frozen 1 rfl q))
            replace HO := HO.set' 1 rfl q (u32 (moreF f t)) (L' := [(gs, .cells (arr8 s) 130 (0, 0)), (w.heap.size + 2, .cells (arr16 (upd f q (moreF f t))) 141 (0, 0)), (w.heap.size + 1, .cells (arr8 (fun _ => 0#32)) 130 (0, 0)), (w.heap.size, .cells (arr8 v) 130 (0, 0))]) (by rw [arr16_set _ q q2]; rfl)
            clear c1 f1 j0
            generalize upd f q (moreF f t) = f' at *
            revert HO
            generalize World.setCell w1 _ _ = wb
            intro HO
          case' neg =>
            have j0 : (t : Int) < 16 := by omega
            rw [if_neg h16] at hR
            clear h16
            go_wp2_with fail
            clear j0
            generalize wr = wb at *
            generalize f = f' at *
          all_goals
            refine kall [(0, true, some 46), (2, true, some 48), (6, true, some 52), (8, true, some 54), (10, true, some 56), (12, true, some 58), (18, true, some 64), (20, true, some 66), (21, true, some 67), (22, true, some 68), (1, true, some 47), (3, true, some 49), (4, true, some 50), (5, true, some 51), (7, true, some 53), (9, true, some 55), (11, true, some 57), (13, true, some 59), (14, true, some 60), (15, true, some 61), (16, true, some 62), (17, true, some 63), (19, true, some 65), (23, true, some 69), (24, true, some 70), (25, true, some 10)] (by kernel_rfl) rfl (by kernel_rfl) rfl (fun _ _ _ _ _ h => h) ?_
            repeat (first
              | (refine sP (v := ?_) (a' := ?_) rfl rfl (by rfl) ?_ ?_ ?_; rotate_left 2; (· intro w'; go_simp; with_reducible rfl); (· simp only [Act.put, List.setIfInBounds_toArray, List.set_cons_zero, List.set_cons_succ, kw64, kw32]; rfl))
              | (refine sD (v := ?_) (a' := ?_) Tryd.func97 rfl rfl (by rfl) rfl (by kernel_rfl) rfl (by rfl) ?_ ?_ ?_; rotate_left 2; (· intro w1 hg; exact turn_any (s 4) 6 11 25 (by decide) (by decide) (by decide) w1); (· simp only [Act.put, List.setIfInBounds_toArray, List.set_cons_zero, List.set_cons_succ, kw64, kw32]; rfl))
              | (refine sB (v := ?_) (a' := ?_) rfl rfl (by rfl) ?_ ?_ ?_; rotate_left 2; (· intro w1 hg; have c := (HO.up hg).cell 0 rfl; unfold arr8 at c; have cw := (HO.up hg).cell 1 rfl q; rw [arr16_get _ q q2] at cw; go_simp; with_reducible rfl); (· simp only [Act.put, List.setIfInBounds_toArray, List.set_cons_zero, List.set_cons_succ, kw64, kw32]; rfl)))
            intro w1 hg
            replace HO := HO.up hg
            clear hg
            go_wp2_with fail
            refine kall [(0, true, some 71), (3, true, some 74), (5, true, some 76), (8, true, some 79), (10, true, some 81), (12, true, some 83), (1, true, some 72), (2, true, some 73), (4, true, some 75), (6, true, some 77), (7, true, some 78), (9, true, some 80), (11, true, some 82), (13, true, some 84), (14, true, some 85), (15, true, some 86), (16, true, some 87), (17, true, some 88), (18, true, some 11)] (by kernel_rfl) rfl (by kernel_rfl) rfl (fun _ _ _ _ _ h => h) ?_
            repeat (first
              | (refine sP (v := ?_) (a' := ?_) rfl rfl (by rfl) ?_ ?_ ?_; rotate_left 2; (· intro w'; go_simp; with_reducible rfl); (· simp only [Act.put, List.setIfInBounds_toArray, List.set_cons_zero, List.set_cons_succ, kw64, kw32]; rfl))
              | (refine sD (v := ?_) (a' := ?_) Tryd.func97 rfl rfl (by rfl) rfl (by kernel_rfl) rfl (by rfl) ?_ ?_ ?_; rotate_left 2; (· intro w1 hg; exact turn_any (s 0) 2 13 22 (by decide) (by decide) (by decide) w1); (· simp only [Act.put, List.setIfInBounds_toArray, List.set_cons_zero, List.set_cons_succ, kw64, kw32]; rfl))
              | (refine sB (v := ?_) (a' := ?_) rfl rfl (by rfl) ?_ ?_ ?_; rotate_left 2; (· intro w1 hg; have c := (HO.up hg).cell 0 rfl; unfold arr8 at c; go_simp; with_reducible rfl); (· simp only [Act.put, List.setIfInBounds_toArray, List.set_cons_zero, List.set_cons_succ, kw64, kw32]; rfl)))
            intro w1 hg
            replace HO := HO.up hg
            clear hg
            have c := HO.cell 0 rfl
            unfold arr8 at c
            have hRf := Lib.hid (show roundF (keyF t) (f' q) s = fun j => match j with | 0 => t1F (keyF t) (f' q) s + t2F s | 4 => s 3 + t1F (keyF t) (f' q) s | j + 1 => s j from by funext j; unfold roundF; rfl)
            unfold t1F t2F at hRf
            revert c
            generalize (ror (s 0) 2 ^^^ ror (s 0) 13 ^^^ ror (s 0) 22) + (s 0 &&& s 1 ||| s 2 &&& (s 0 ||| s 1)) = T2 at *
            generalize s 7 + (ror (s 4) 6 ^^^ ror (s 4) 11 ^^^ ror (s 4) 25) + (s 6 ^^^ s 4 &&& (s 5 ^^^ s 6)) + keyF t + f' q = T1 at *
            intro c
            have hz := HO.frozen 0 rfl
            go_wp2
            go_roundw
            case rel =>
              refine ⟨t + 1, by go_num, ⟨by omega⟩, ?_⟩
              rw [Hnx.out, hR.out, hRf.out]
              exact HO.set8 _ _ _ _ _ _ _ _ _ ⟨rfl, rfl, rfl, rfl, rfl, rfl, rfl, rfl⟩
            case measure => simp [intOf]; omega
        · have ht : t = 64 := by have := Ht.out; omega
          have ht2 : (64 : Int) ≤ (t : Int) := by omega
          clear hlt Ht hR
          generalize hs : (runF (ldF b 64) v t).2 = s at *
          have Hs := Lib.hid (show (runF (ldF b 64) v 64).2 = s by rw [← hs, ht])
          clear hs ht
          generalize (runF (ldF b 64) v t).1 = f at *
          go_wp2
          clear ht2
          go_loopw [110] (fun c wr => ∃ k : Nat, c = .int .i64 (k : Int) ∧ Aside0 (k ≤ 8) ∧ Own w [(gs, .cells (arr8 s) 130 (0, 0)), (w.heap.size + 2, .cells (arr16 f) 141 (0, 0)), (w.heap.size + 1, .cells (arr8 (fun _ => 0#32)) 130 (0, 0)), (w.heap.size, .cells (arr8 (fun j => if j < k then v j + s j else v j)) 130 (0, 0))] wr) (fun c _ => 8 - (intOf c).toNat)
          case atStart => exact ⟨0, rfl, ⟨by omega⟩, HO⟩
          case round =>
            clear HO
            obtain ⟨k, rfl, Hk, HO⟩ := hrel
            by_cases hlt : k < 8
            · have i0 : (0 : Int) ≤ (k : Int) := by omega
              have i1 : (k : Int) < 8 := by omega
              have g3 := arr8_get (fun j => if j < k then v j + s j else v j) k hlt
              rw [if_neg (Nat.lt_irrefl k)] at g3
              have g0 := arr8_get s k hlt
              have hA := Lib.hid (show (arr8 (fun j => if j < k then v j + s j else v j)).setIfInBounds k (u32 (v k + s k)) = arr8 (fun j => if j < k + 1 then v j + s j else v j) from by
                rw [arr8_set _ k hlt]
                congr 1
                funext j
                show (if j = k then v k + s k else (if j < k then v j + s j else v j)) = _
                by_cases h1 : j = k
                · subst h1; rw [if_pos rfl, if_pos (by omega)]
                · rw [if_neg h1]
                  by_cases h2 : j < k
                  · rw [if_pos h2, if_pos (by omega)]
                  · rw [if_neg h2, if_neg (by omega)])
              generalize (fun j => if j < k then v j + s j else v j) = p at *
              generalize hp' : (fun j => if j < k + 1 then v j + s j else v j) = p' at *
              have Hp := Lib.hid hp'
              clear hp'
              go_wp2_with fail
              refine bstart (fun _ => w.heap.size) (n := 9) (ds := [8]) #[false, false, false, false, false, false, false, false, false] (by kernel_rfl) rfl rfl HO.below.size (fun HBS => ?_)
              refine bseq (m := 1) (.inl rfl) [(0, true, some 113), (1, true, some 114), (3, true, some 116), (4, true, some 117), (2, false, some 115), (5, false, some 118), (6, true, some 119), (7, true, some 120)] #[true, true, true, true, true, true, true, true, false] HBS (by kernel_rfl) rfl (fun _ _ _ _ _ h => h) ?_
              repeat (first
                | (refine sP (v := ?_) (a' := ?_) rfl rfl (by rfl) ?_ ?_ ?_; rotate_left 2; (· intro w'; go_simp; with_reducible rfl); (· simp only [Act.put, List.setIfInBounds_toArray, List.set_cons_zero, List.set_cons_succ, kw64, kw32]; rfl))
                | (refine sL (v := ?_) (a' := ?_) rfl rfl (by rfl) ?_ ?_ ?_; rotate_left 2; (· intro w1 hg; have c := (HO.up hg).cell 0 rfl k; rw [g0] at c; have c3 := (HO.up hg).cell 3 rfl k; rw [g3] at c3; go_simp; with_reducible rfl); (· simp only [Act.put, List.setIfInBounds_toArray, List.set_cons_zero, List.set_cons_succ, kw64, kw32]; rfl)))
              refine bone (i := 8) (N := none) #[true, true, true, true, true, true, true, true, true] rfl rfl (by kernel_rfl) HBS (fun w1 hg K hK => ?_)
              rw [if_pos (by rfl)]
              replace HO := HO.up hg
              have c1 := HO.cell 3 rfl k
              rw [g3] at c1
              have f1 := HO.frozen 3 rfl k
              go_simp
              refine hK _ _ (in_ds (by decide) (bel_set (by omega))) (fun HBS => ?_)
              replace HO := HO.set' 3 rfl k (u32 (v k + s k)) (L' := [(gs, .cells (arr8 s) 130 (0, 0)), (w.heap.size + 2, .cells (arr16 f) 141 (0, 0)), (w.heap.size + 1, .cells (arr8 (fun _ => 0#32)) 130 (0, 0)), (w.heap.size, .cells (arr8 p') 130 (0, 0))]) (by rw [hA.out]; rfl)
              clear c1 f1 hg K hK
              revert HO HBS
              generalize World.setCell w1 _ _ = wb
              intro HBS HO
              refine bdone (by kernel_rfl) (fun w1 hg => ?_)
              replace HO := HO.up hg
              clear hg
              go_wp2
              go_roundw
              case rel => exact ⟨k + 1, by go_num, ⟨by omega⟩, by rw [Hp.out]; exact HO⟩
              case measure => simp [intOf]; omega
            · obtain rfl : k = 8 := by have := Hk.out; omega
              clear hlt Hk
              replace HO : Own w [(gs, .cells (arr8 s) 130 (0, 0)), (w.heap.size + 2, .cells (arr16 f) 141 (0, 0)), (w.heap.size + 1, .cells (arr8 (fun _ => 0#32)) 130 (0, 0)), (w.heap.size, .cells (arr8 (mixF v b)) 130 (0, 0))] wr := by
                have hm : ∀ j, mixF v b j = v j + s j := by intro j; unfold mixF; rw [Hs.out]
                have e : arr8 (mixF v b) = arr8 (fun j => if j < 8 then v j + s j else v j) := arr8_ext _ _ (fun j hj => by rw [hm, if_pos hj])
                rw [e]; exact HO
              go_wp2_with (first | (refine wpList_load_row rfl 130 (.tmp 2) rfl w.heap.size (by rfl) _ (arr8 (mixF v b)) _ _ (HO.blk 3 rfl) Tryd.underlying130 rfl (by kernel_rfl) ?_) | (refine wpList_store_row rfl 130 (.tmp 4) (.tmp 122) rfl (w.heap.size + 1) (arr8 (mixF v b)) (by rfl) (by rfl) _ _ (HO.blk 2 rfl) (by kernel_rfl) (arr8_len _ _) (arr8_one _) ?_))
              exact bodyPost_ret (v := .agg (arr8 (mixF v b))) (results_cell_row Tryd.results84 _ _ (w.heap.size + 1) 130 _ (0, 0) _ (by rfl) ((HO.setRow 2 rfl (arr8 (mixF v b)) rfl).blk 2 rfl) Tryd.underlying130 rfl (by kernel_rfl)) rfl ⟨rfl, (HO.setRow 2 rfl (arr8 (mixF v b)) rfl).below⟩
end Go.Proofs.YtpafocjmheemjaaDoor

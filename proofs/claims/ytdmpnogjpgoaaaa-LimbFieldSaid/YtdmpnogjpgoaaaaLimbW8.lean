import Derived.Test.YtdmpnogjpgoaaaaLimbV3
import Derived.Test.YtdmpnogjpgoaaaaReg
import Derived.Deep.LoopGhost
set_option linter.unusedSimpArgs false
namespace Go.Proofs.Ytdmpnogjpgoaaaa
open Go.RowKit Go.Proofs.YtdmpnogjpgoaaaaW.PrintWords Go.Proofs.YtdmpnogjpgoaaaaW.PrintLast Go.Proofs.YtdmpnogjpgoaaaaW.PrintMore
theorem MM4 : MM ^ 4 = 2 * P25 + 38 := by decide +kernel
theorem wd_mod (x j : Nat) (hj : j < 4) : wd (x % MM ^ 4) j = wd x j := by
  have h := wd_MM x j
  rw [h, wd_MM]
  obtain ⟨t, ht⟩ : ∃ t, 4 = j + (t + 1) := ⟨3 - j, by omega⟩
  rw [ht, Nat.pow_add, Nat.mod_mul_right_div_self, Nat.pow_succ, Nat.mod_mul_left_mod]
theorem aggN_mod (x : Nat) : aggN (x % MM ^ 4) = aggN x := by
  unfold aggN
  rw [wd_mod x 0 (by omega), wd_mod x 1 (by omega), wd_mod x 2 (by omega), wd_mod x 3 (by omega)]
theorem aggN_two (x : Nat) (h : x < MM ^ 2) : aggN x = #[.int .u64 (x % 18446744073709551616 : Nat), .int .u64 (x / 18446744073709551616 : Nat), .int .u64 0, .int .u64 0] := by
  have e2 : MM ^ 2 = 340282366920938463463374607431768211456 := by decide +kernel
  rw [e2] at h
  unfold aggN
  rw [show wd x 0 = x % 18446744073709551616 by unfold wd; rw [Nat.pow_zero, Nat.div_one], show wd x 1 = x / 18446744073709551616 by unfold wd; rw [Nat.pow_one]; omega,
    show wd x 2 = 0 by unfold wd; rw [Nat.div_eq_of_lt (by omega)], show wd x 3 = 0 by unfold wd; rw [Nat.div_eq_of_lt (by omega)]]
  rfl
attribute [local irreducible] Calls
set_option maxHeartbeats 4000000 in
set_option maxRecDepth 100000 in
theorem left_any (n h : Nat) (w : World) (hn : n < MM ^ 4) (hh : h < 18446744073709551616) :
    Calls Try.prog 56 #[.agg (aggN n), .int .u64 h] w fun e w' => e = .returned (.agg (aggN ((n + MM ^ 4 * h) % P25))) ∧ Below w.heap.size w w' := by
  have hu65 := Try.underlying67
  unfold aggN
  go_enter Try.func56, Try.ntmps56
  go_wp2
  go_loopg [1] (n + MM ^ 4 * h) (fun g v1 wr => ∃ n' h' : Nat, v1 = .int .u64 h' ∧ Aside0 (h' < 18446744073709551616) ∧ Aside0 (n' < MM ^ 4) ∧ Aside0 (n' + MM ^ 4 * h' = g) ∧ Aside0 (g % P25 = (n + MM ^ 4 * h) % P25) ∧ Own w [(w.heap.size + 1, .cells #[.int .u64 0, .int .u64 0, .int .u64 0, .int .u64 0] 67 (0, 0)), (w.heap.size, .cells (aggN n') 67 (0, 0))] wr)
  case atStart =>
    exact ⟨n, h, rfl, ⟨hh⟩, ⟨hn⟩, ⟨rfl⟩, ⟨rfl⟩, ((Own.start w).alloc (.cells (aggN n) 67)).alloc' _ (by simp)⟩
  case round =>
    obtain ⟨n', h', rfl, Hh, Hn, Hg, HP, HO⟩ := hrel
    by_cases h0 : 0 < h'
    · have h0i : (0 : Int) < (h' : Int) := by omega
      have e2 : MM ^ 2 = 340282366920938463463374607431768211456 := by decide +kernel
      have HPL := Lib.hid (fun W => plus_any n' (h' * 38) W)
      rw [aggN_two (h' * 38) (by rw [e2]; have := Hh.out; omega)] at HPL
      clear e2
      go_wp2_with (first | (go_at_call 95; refine (Mul64_any h' 38 Hh.out (by omega) _).mono ?_; rintro e w1 ⟨rfl, hd1⟩; replace HO := HO.up hd1.below; have c0 := HO.cell 1 rfl; unfold aggN at c0) | (go_at_call 62; refine (HPL.out _).mono ?_; rintro e w2 ⟨rfl, hb2⟩; replace HO := HO.up hb2; clear c0; have c0 := HO.cell 1 rfl; unfold aggN at c0; have f0 := HO.frozen 1 rfl; unfold aggN))
      have hM := MM4
      have hlt : h' * 38 < MM ^ 4 := by have := P25_big; have := Hh.out; have : (18446744073709551616 : Nat) * 38 < MM ^ 4 := by decide +kernel
                                        omega
      have hcy := cy_4 n' (h' * 38) Hn.out hlt
      go_roundg (n' + h' * 38)
      case measure => rw [← Hg.out]; have := Nat.mul_le_mul_right h' (show 39 ≤ MM ^ 4 by rw [hM]; have := P25_pos; omega); omega
      case rel =>
        refine ⟨(n' + h' * 38) % MM ^ 4, cy n' (h' * 38) 4, rfl, ⟨by have := cy_le n' (h' * 38) 4; omega⟩, ⟨Nat.mod_lt _ (MMpos 4)⟩, ⟨by rw [hcy, Nat.mod_add_div]⟩, ⟨?_⟩, ?_⟩
        · rw [← HP.out, ← Hg.out, hM, Nat.add_mul, Nat.mul_comm 2 P25, Nat.mul_assoc, Nat.add_comm (P25 * (2 * h')), ← Nat.add_assoc, Nat.add_mul_mod_self_left, Nat.mul_comm h' 38]
        · rw [aggN_mod]
          exact (((HO.set 1 rfl 0 _).set 1 rfl 1 _).set 1 rfl 2 _).set 1 rfl 3 _
    · obtain rfl : h' = 0 := by omega
      have HV : Aside0 (n' % P25 = (n + MM ^ 4 * h) % P25) := ⟨by rw [← HP.out, ← Hg.out]; simp⟩
      clear HP Hg Hh
      go_wp2
      go_loopg [8] n' (fun g _ wq => ∃ n2 : Nat, Aside0 (n2 = g) ∧ Aside0 (n2 < MM ^ 4) ∧ Aside0 (n2 % P25 = (n + MM ^ 4 * h) % P25) ∧ Own w [(w.heap.size + 1, .cells #[.int .u64 0, .int .u64 0, .int .u64 0, .int .u64 0] 67 (0, 0)), (w.heap.size, .cells (aggN n2) 67 (0, 0))] wq)
      case atStart => exact ⟨n', ⟨rfl⟩, Hn, HV, HO⟩
      case round =>
        clear HO Hn HV h0
        obtain ⟨n2, Hg, Hn, HV, HO⟩ := hrel
        have hPM : P25 < MM ^ 4 := by have := MM4; omega
        have hbw := Lib.hid (bw_4 n2 P25 Hn.out hPM)
        go_wp2_with fail
        refine kstart (n := 9) (ds := [7]) #[false, false, false, false, false, false, false, false, false] (by kernel_rfl) rfl rfl ?_
        refine ktake (i := 0) (N := (some 25)) (v := ?_) (a' := ?_) #[true, false, false, false, false, false, false, false, false] rfl rfl (by kernel_rfl) (fun _ _ _ h => h) (Or.inl ⟨by rfl, fun w1 hg => ?_⟩) ?_ ?_  -- 0 load 67 (tmp 2)
        rotate_left
        · refine RunG_value ?_; have c0 := (HO.up hg).cell 1 rfl; unfold aggN at c0; go_simp; with_reducible rfl
        rotate_left
        · simp only [Act.put, List.setIfInBounds_toArray, List.set_cons_zero, List.set_cons_succ, i64_w, i32_w]; rfl
        refine ktake (i := 1) (N := (some 26)) (v := .agg (aggN P25)) (a' := ?_) #[true, true, false, false, false, false, false, false, false] rfl rfl (by kernel_rfl) (fun _ _ _ h => h) (Or.inl ⟨by rfl, fun w1 hg => RunG_call Try.func64 (by kernel_rfl) rfl [] rfl (by rfl) (prime_any _)⟩) ?_ ?_  -- 1 call { callee := value (func 64), args := #[], argTypes := #[] }
        rotate_left
        · simp only [Act.put, List.setIfInBounds_toArray, List.set_cons_zero, List.set_cons_succ, i64_w, i32_w]; rfl
        refine ktake (i := 2) (N := (some 27)) (v := .tuple #[.agg (aggN (n2 + MM ^ 4 - P25)), .int .u64 (bw n2 P25 4 : Nat)]) (a' := ?_) #[true, true, true, false, false, false, false, false, false] rfl rfl (by kernel_rfl) (fun _ _ _ h => h) (Or.inl ⟨by rfl, fun w1 hg => RunG_call Try.func63 (by kernel_rfl) rfl [.agg (aggN n2), .agg (aggN P25)] rfl (by rfl) (less_any n2 P25 _ hPM)⟩) ?_ ?_  -- 2 call { callee := value (func 63), args := #[tmp 25, tmp 26], argTypes := #[67, 67] }
        rotate_left
        · simp only [Act.put, List.setIfInBounds_toArray, List.set_cons_zero, List.set_cons_succ, i64_w, i32_w]; rfl
        refine kpure (i := 3) (N := (some 24)) (v := ?_) (a' := ?_) #[true, true, true, true, false, false, false, false, false] rfl rfl (by kernel_rfl) (fun _ _ _ h => h) (Or.inl ⟨by rfl, ?_⟩) ?_ ?_  -- 3 move (tmp 27)
        rotate_left
        · intro w'; go_simp; with_reducible rfl
        rotate_left
        · simp only [Act.put, List.setIfInBounds_toArray, List.set_cons_zero, List.set_cons_succ, i64_w, i32_w]; rfl
        refine kpure (i := 4) (N := (some 28)) (v := ?_) (a' := ?_) #[true, true, true, true, true, false, false, false, false] rfl rfl (by kernel_rfl) (fun _ _ _ h => h) (Or.inl ⟨by rfl, ?_⟩) ?_ ?_  -- 4 extract (tmp 24) 0
        rotate_left
        · intro w'; go_simp; with_reducible rfl
        rotate_left
        · simp only [Act.put, List.setIfInBounds_toArray, List.set_cons_zero, List.set_cons_succ, i64_w, i32_w]; rfl
        refine kpure (i := 5) (N := (some 29)) (v := ?_) (a' := ?_) #[true, true, true, true, true, true, false, false, false] rfl rfl (by kernel_rfl) (fun _ _ _ h => h) (Or.inl ⟨by rfl, ?_⟩) ?_ ?_  -- 5 extract (tmp 24) 1
        rotate_left
        · intro w'; go_simp; with_reducible rfl
        rotate_left
        · simp only [Act.put, List.setIfInBounds_toArray, List.set_cons_zero, List.set_cons_succ, i64_w, i32_w]; rfl
        refine kone (i := 6) (N := (some 7)) #[true, true, true, true, true, true, true, false, false] rfl rfl (by kernel_rfl) (fun w1 hg K hK => ?_)  -- 6 alloc 67
        rw [if_pos (by rfl)]
        replace HO := HO.up hg
        have hz := HO.lt 1 rfl
        go_simp
        refine hK _ _ (fun _ => below_alloc (Below.refl _ _) _) ?_
        replace HO := HO.alloc (.cells #[.int .u64 0, .int .u64 0, .int .u64 0, .int .u64 0] 67)
        clear hg K hK
        generalize hwa : w1.alloc (.cells #[.int .u64 0, .int .u64 0, .int .u64 0, .int .u64 0] 67) = wa at *
        generalize hga : w1.heap.size = ga at *
        refine kone (i := 7) (N := none) #[true, true, true, true, true, true, true, true, false] rfl rfl (by kernel_rfl) (fun w1 hg K hK => ?_)  -- 7 store 67 (tmp 7) (tmp 28)
        rw [if_pos (by rfl)]
        replace HO := HO.up hg
        have c1 := HO.cell 0 rfl
        have f1 := HO.frozen 0 rfl
        unfold aggN
        go_simp
        refine hK _ _ (fun h => absurd (by decide) h) ?_
        replace HO := (((HO.set 0 rfl 0 (.int .u64 (wd (n2 + MM ^ 4 - P25) 0))).set 0 rfl 1 (.int .u64 (wd (n2 + MM ^ 4 - P25) 1))).set 0 rfl 2 (.int .u64 (wd (n2 + MM ^ 4 - P25) 2))).set 0 rfl 3 (.int .u64 (wd (n2 + MM ^ 4 - P25) 3))
        replace HO : Own w [(ga, .cells (aggN (n2 + MM ^ 4 - P25)) 67 (0, 0)), (w.heap.size + 1, .cells #[.int .u64 0, .int .u64 0, .int .u64 0, .int .u64 0] 67 (0, 0)), (w.heap.size, .cells (aggN n2) 67 (0, 0))] _ := HO
        clear c1 f1 hg K hK
        revert HO
        generalize (((w1.setCell _ _).setCell _ _).setCell _ _).setCell _ _ = wb
        intro HO
        refine kpure (i := 8) (N := (some 8)) (v := ?_) (a' := ?_) #[true, true, true, true, true, true, true, true, true] rfl rfl (by kernel_rfl) (fun _ _ _ h => h) (Or.inl ⟨by rfl, ?_⟩) ?_ ?_  -- 8 assign (tmp 29)
        rotate_left
        · intro w'; go_simp; with_reducible rfl
        rotate_left
        · simp only [Act.put, List.setIfInBounds_toArray, List.set_cons_zero, List.set_cons_succ, i64_w, i32_w]; rfl
        refine kdone (by kernel_rfl) (fun w1 hg => ?_)
        replace HO := HO.up hg
        clear hg hz
        by_cases hP : n2 < P25
        · rw [if_pos hP] at hbw
          rw [hbw.out]
          have c0 := HO.cell 2 rfl
          have f1 := HO.frozen 1 rfl
          have c1 := HO.cell 1 rfl
          unfold aggN at c0
          obtain rfl : n2 = (n + MM ^ 4 * h) % P25 := by rw [← HV.out, Nat.mod_eq_of_lt hP]
          clear Hg HV Hn hPM hbw hP
          go_wp2
          exact bodyPost_ret (v := .agg (aggN ((n + MM ^ 4 * h) % P25))) (by simp [results, Try.results56, go_sem, aggN, *]) rfl ⟨rfl, ((((HO.set 1 rfl 0 _).set 1 rfl 1 _).set 1 rfl 2 _).set 1 rfl 3 _).below⟩
        · rw [if_neg hP] at hbw
          rw [hbw.out]
          have c0 := HO.cell 0 rfl
          have f1 := HO.frozen 2 rfl
          have c1 := HO.cell 2 rfl
          unfold aggN at c0 c1
          have e1 : (n2 + MM ^ 4 - P25) % MM ^ 4 = n2 - P25 := by
            have := Hn.out
            rw [show n2 + MM ^ 4 - P25 = (n2 - P25) + MM ^ 4 by omega, Nat.add_mod_right, Nat.mod_eq_of_lt (by omega)]
          have e2 : (n2 - P25) % P25 = n2 % P25 := by rw [← Nat.mod_eq_sub_mod (by omega)]
          have hE := Aside0.mk e1
          have hE2 := Aside0.mk e2
          have hpp := P25_pos
          clear e1 e2 hbw
          go_wp2
          go_roundg (n2 - P25)
          case measure => have := Hg.out; omega
          case rel =>
            refine ⟨n2 - P25, ⟨rfl⟩, ⟨by have := Hn.out; omega⟩, ⟨by rw [hE2.out, HV.out]⟩, ?_⟩
            rw [← hE.out, aggN_mod]
            exact ((((HO.set 2 rfl 0 _).set 2 rfl 1 _).set 2 rfl 2 _).set 2 rfl 3 _).drop _ (List.Sublist.cons _ (List.Sublist.refl _))
end Go.Proofs.Ytdmpnogjpgoaaaa

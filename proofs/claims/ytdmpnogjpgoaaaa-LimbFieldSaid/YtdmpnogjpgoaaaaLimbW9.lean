import Derived.Test.YtdmpnogjpgoaaaaLimbW8
import Derived.Test.YtdmpnogjpgoaaaaLimbV4
import Derived.Laws.Cover3
set_option linter.unusedSimpArgs false
namespace Go.Proofs.Ytdmpnogjpgoaaaa
open Go.RowKit Go.Proofs.YtdmpnogjpgoaaaaW.PrintWords Go.Proofs.YtdmpnogjpgoaaaaW.PrintLast Go.Proofs.YtdmpnogjpgoaaaaW.PrintMore
def zero4 : Array Value := #[.int .u64 0, .int .u64 0, .int .u64 0, .int .u64 0]
theorem mulHL (x y : Nat) (hx : x < MM) (hy : y < MM) (w : World) :
    Calls Try.prog 95 #[.int .u64 x, .int .u64 y] w fun e w' => e = .returned (.tuple #[.int .u64 (x * y / MM : Nat), .int .u64 (x * y % MM : Nat)]) ∧ Below w.heap.size w w' :=
  (Mul64_any x y hx hy w).mono fun _ _ h => ⟨h.1, h.2.below⟩
theorem mod_mul_succ (n m k : Nat) (hm : m < MM ^ 4) : n % MM ^ k * m + MM ^ k * (wd n k * (m % MM ^ 4)) = n % MM ^ (k + 1) * m := by
  rw [Nat.mod_eq_of_lt hm, mod_succ, Nat.add_mul, Nat.mul_assoc]
theorem mod_mul_step (n m k j : Nat) : MM ^ k * (wd n k * (m % MM ^ j)) + MM ^ (k + j) * (wd n k * wd m j) = MM ^ k * (wd n k * (m % MM ^ (j + 1))) := by
  rw [mod_succ m j, Nat.mul_add, Nat.mul_add, Nat.pow_add]
  congr 1
  simp only [Nat.mul_assoc, Nat.mul_left_comm]
attribute [local irreducible] Calls
set_option maxHeartbeats 4000000 in
set_option maxRecDepth 100000 in
theorem times_any (n m : Nat) (w : World) (hn : n < MM ^ 4) (hm : m < MM ^ 4) :
    Calls Try.prog 65 #[.agg (aggN n), .agg (aggN m)] w fun e w' => e = .returned (.agg (aggN (n * m % P25))) ∧ Below w.heap.size w w' := by
  have hu65 := Try.underlying67
  have hu109 := Try.underlying109
  have hat : ∀ w a, (Instr.arrayAt 67 (.slice a 4 8)).run Try.prog w = .ok (.pointer a) w := fun w a => run_arrayAt w 67 _ 4 a 4 8 hu65 (by omega)
  unfold aggN
  go_enter Try.func65, Try.ntmps65
  go_wp2
  go_loopw [20] (fun i wr => ∃ k : Nat, ∃ f : Nat → Nat, k ≤ 4 ∧ i = .int .i64 k ∧ Aside0 (∀ i, f i < MM) ∧ Aside0 (∀ i, k + 4 ≤ i → f i = 0) ∧ Aside0 (vW f 8 = n % MM ^ k * m) ∧ Own w [(w.heap.size + 3, .cells (wA .u64 8 f) 109 (0, 0)), (w.heap.size + 2, .cells zero4 67 (0, 0)), (w.heap.size + 1, .cells (aggN m) 67 (0, 0)), (w.heap.size, .cells (aggN n) 67 (0, 0))] wr) (fun i _ => (4 - intOf i).toNat)
  case atStart =>
    exact ⟨0, fun _ => 0, by omega, rfl, ⟨fun _ => by show 0 < MM; unfold MM; omega⟩, ⟨fun _ _ => rfl⟩, ⟨by simp [vW, Nat.mod_one]⟩, ((((Own.start w).alloc (.cells (aggN n) 67)).alloc' (.cells (aggN m) 67) (by simp)).alloc' (.cells zero4 67) (by simp)).alloc' (.cells (wA .u64 8 (fun _ => 0)) 109) (by simp)⟩
  case round =>
    obtain ⟨k, f, hk, rfl, Hf, Hz, HV, HO⟩ := hrel
    by_cases hlt : k < 4
    · have hlti : (k : Int) < 4 := by omega
      have hki : (0 : Int) ≤ (k : Int) := by omega
      go_wp2
      go_loopw [23, 7] (fun j c wq => ∃ jn cn : Nat, ∃ g : Nat → Nat, jn ≤ 4 ∧ j = .int .i64 jn ∧ c = .int .u64 cn ∧ Aside0 (cn < MM) ∧ Aside0 (∀ i, g i < MM) ∧ Aside0 (∀ i, k + 4 ≤ i → g i = 0) ∧ Aside0 (vW g 8 + MM ^ (k + jn) * cn = n % MM ^ k * m + MM ^ k * (wd n k * (m % MM ^ jn))) ∧ Own w [(w.heap.size + 3, .cells (wA .u64 8 g) 109 (0, 0)), (w.heap.size + 2, .cells zero4 67 (0, 0)), (w.heap.size + 1, .cells (aggN m) 67 (0, 0)), (w.heap.size, .cells (aggN n) 67 (0, 0))] wq) (fun j _ _ => (4 - intOf j).toNat)
      case atStart => exact ⟨0, 0, f, by omega, rfl, rfl, ⟨by unfold MM; omega⟩, Hf, Hz, ⟨by rw [HV.out]; simp [Nat.mod_one]⟩, HO⟩
      case round =>
        clear HO HV Hz Hf f
        obtain ⟨jn, cn, g, hj, rfl, rfl, Hc, Hg, Hz, HV, HO⟩ := hrel
        by_cases hjlt : jn < 4
        · have hjlti : (jn : Int) < 4 := by omega
          have hji : (0 : Int) ≤ (jn : Int) := by omega
          have hs8 : (k : Int) + (jn : Int) < 8 := by omega
          have hn0 : wr.cell? ⟨w.heap.size, k, none⟩ = some (.int .u64 (wd n k : Nat)) := (HO.cell 3 rfl k).trans (wA_get .u64 4 (wd n) k hlt)
          have hm0 : wr.cell? ⟨w.heap.size + 1, jn, none⟩ = some (.int .u64 (wd m jn : Nat)) := (HO.cell 2 rfl jn).trans (wA_get .u64 4 (wd m) jn hjlt)
          have hpb := mul_bd (wd_lt n k) (wd_lt m jn)
          obtain ⟨q1, q2, q3, q4⟩ := mac (wd n k * wd m jn) (g (k + jn)) cn hpb (Hg.out _) Hc.out
          have a1 := add75_0 (wd n k * wd m jn % MM) (g (k + jn))
          have a2 := add75_0 (adS (wd n k * wd m jn % MM) (g (k + jn)) 0) cn
          have HM := mulHL (wd n k) (wd m jn) (wd_lt n k) (wd_lt m jn)
          obtain ⟨fk, hfk⟩ : ∃ x, x = g (k + jn) := ⟨_, rfl⟩
          have hcell : ∀ W, Own w [(w.heap.size + 3, .cells (wA .u64 8 g) 109 (0, 0)), (w.heap.size + 2, .cells zero4 67 (0, 0)), (w.heap.size + 1, .cells (aggN m) 67 (0, 0)), (w.heap.size, .cells (aggN n) 67 (0, 0))] W → W.cell? ⟨w.heap.size + 3, k + jn, none⟩ = some (.int .u64 (fk : Nat)) := fun W h => hfk ▸ (h.cell 0 rfl (k + jn)).trans (wA_get .u64 8 g (k + jn) (by omega))
          rw [← hfk] at q1 q2 q3 q4 a1 a2
          have Hq := Aside0.mk (mod_mul_step n m k jn)
          generalize hpp : wd n k * wd m jn = p at HM a1 a2 q1 q2 q3 q4 hpb
          generalize p / MM = hi at HM q1 q2 q3
          generalize p % MM = lo at *
          generalize adS lo fk 0 = s1 at *
          generalize adC lo fk 0 = o1 at *
          generalize adS s1 cn 0 = s2 at *
          generalize adC s1 cn 0 = o2 at *
          have hb1 : (hi : Int) + (o1 : Int) < 18446744073709551616 := by unfold MM at q2; omega
          have hb2 : (hi : Int) + (o1 : Int) + (o2 : Int) < 18446744073709551616 := by unfold MM at q3; omega
          have HM := Lib.hid HM
          have Hcell := Lib.hid hcell
          have Hpp := Aside0.mk hpp
          have Hfk := Aside0.mk hfk
          have Q1 := Aside0.mk q1
          have Q3 := Aside0.mk q3
          have Q4 := Aside0.mk q4
          clear hcell hpp hfk q1 q2 q3 q4 hpb
          go_wp2_with fail
          refine kstart (n := 12) (ds := []) #[false, false, false, false, false, false, false, false, false, false, false, false] (by kernel_rfl) rfl rfl ?_
          refine kpure (i := 0) (N := (some 27)) (v := ?_) (a' := ?_) #[true, false, false, false, false, false, false, false, false, false, false, false] rfl rfl (by kernel_rfl) (fun _ _ _ h => h) (Or.inl ⟨by rfl, ?_⟩) ?_ ?_  -- 0 move (tmp 6)
          rotate_left
          · intro w'; go_simp; with_reducible rfl
          rotate_left
          · simp only [Act.put, List.setIfInBounds_toArray, List.set_cons_zero, List.set_cons_succ, i64_w, i32_w]; rfl
          refine kpure (i := 1) (N := (some 28)) (v := ?_) (a' := ?_) #[true, true, false, false, false, false, false, false, false, false, false, false] rfl rfl (by kernel_rfl) (fun _ _ _ h => h) (Or.inl ⟨by rfl, ?_⟩) ?_ ?_  -- 1 indexAddr 67 (tmp 2) (tmp 27)
          rotate_left
          · intro w'; go_simp; with_reducible rfl
          rotate_left
          · simp only [Act.put, List.setIfInBounds_toArray, List.set_cons_zero, List.set_cons_succ, i64_w, i32_w]; rfl
          refine kpure (i := 3) (N := (some 30)) (v := ?_) (a' := ?_) #[true, true, false, true, false, false, false, false, false, false, false, false] rfl rfl (by kernel_rfl) (fun _ _ _ h => h) (Or.inl ⟨by rfl, ?_⟩) ?_ ?_  -- 3 move (tmp 8)
          rotate_left
          · intro w'; go_simp; with_reducible rfl
          rotate_left
          · simp only [Act.put, List.setIfInBounds_toArray, List.set_cons_zero, List.set_cons_succ, i64_w, i32_w]; rfl
          refine kpure (i := 4) (N := (some 31)) (v := ?_) (a' := ?_) #[true, true, false, true, true, false, false, false, false, false, false, false] rfl rfl (by kernel_rfl) (fun _ _ _ h => h) (Or.inl ⟨by rfl, ?_⟩) ?_ ?_  -- 4 indexAddr 67 (tmp 3) (tmp 30)
          rotate_left
          · intro w'; go_simp; with_reducible rfl
          rotate_left
          · simp only [Act.put, List.setIfInBounds_toArray, List.set_cons_zero, List.set_cons_succ, i64_w, i32_w]; rfl
          refine ktake (i := 2) (N := (some 29)) (v := ?_) (a' := ?_) #[true, true, true, true, true, false, false, false, false, false, false, false] rfl rfl (by kernel_rfl) (fun _ _ _ h => h) (Or.inl ⟨by rfl, fun w1 hg => ?_⟩) ?_ ?_  -- 2 load 42 (tmp 28)
          rotate_left
          · refine RunG_value ?_; have c0 := ((HO.up hg).cell 3 rfl k).trans (wA_get .u64 4 (wd n) k hlt); have c1 := ((HO.up hg).cell 2 rfl jn).trans (wA_get .u64 4 (wd m) jn hjlt); go_simp; with_reducible rfl
          rotate_left
          · simp only [Act.put, List.setIfInBounds_toArray, List.set_cons_zero, List.set_cons_succ, i64_w, i32_w]; rfl
          refine ktake (i := 5) (N := (some 32)) (v := ?_) (a' := ?_) #[true, true, true, true, true, true, false, false, false, false, false, false] rfl rfl (by kernel_rfl) (fun _ _ _ h => h) (Or.inl ⟨by rfl, fun w1 hg => ?_⟩) ?_ ?_  -- 5 load 42 (tmp 31)
          rotate_left
          · refine RunG_value ?_; have c0 := ((HO.up hg).cell 3 rfl k).trans (wA_get .u64 4 (wd n) k hlt); have c1 := ((HO.up hg).cell 2 rfl jn).trans (wA_get .u64 4 (wd m) jn hjlt); go_simp; with_reducible rfl
          rotate_left
          · simp only [Act.put, List.setIfInBounds_toArray, List.set_cons_zero, List.set_cons_succ, i64_w, i32_w]; rfl
          refine ktake (i := 6) (N := (some 33)) (v := .tuple #[.int .u64 (hi : Nat), .int .u64 (lo : Nat)]) (a' := ?_) #[true, true, true, true, true, true, true, false, false, false, false, false] rfl rfl (by kernel_rfl) (fun _ _ _ h => h) (Or.inl ⟨by rfl, fun w1 hg => RunG_call Try.func95 (by kernel_rfl) rfl [.int .u64 (wd n k : Nat), .int .u64 (wd m jn : Nat)] rfl (by rfl) (HM.out _)⟩) ?_ ?_  -- 6 call { callee := value (func 95), args := #[tmp 29, tmp 32], argTypes := #[42, 42] }
          rotate_left
          · simp only [Act.put, List.setIfInBounds_toArray, List.set_cons_zero, List.set_cons_succ, i64_w, i32_w]; rfl
          refine kpure (i := 7) (N := (some 26)) (v := ?_) (a' := ?_) #[true, true, true, true, true, true, true, true, false, false, false, false] rfl rfl (by kernel_rfl) (fun _ _ _ h => h) (Or.inl ⟨by rfl, ?_⟩) ?_ ?_  -- 7 move (tmp 33)
          rotate_left
          · intro w'; go_simp; with_reducible rfl
          rotate_left
          · simp only [Act.put, List.setIfInBounds_toArray, List.set_cons_zero, List.set_cons_succ, i64_w, i32_w]; rfl
          refine kpure (i := 8) (N := (some 34)) (v := ?_) (a' := ?_) #[true, true, true, true, true, true, true, true, true, false, false, false] rfl rfl (by kernel_rfl) (fun _ _ _ h => h) (Or.inl ⟨by rfl, ?_⟩) ?_ ?_  -- 8 extract (tmp 26) 0
          rotate_left
          · intro w'; go_simp; with_reducible rfl
          rotate_left
          · simp only [Act.put, List.setIfInBounds_toArray, List.set_cons_zero, List.set_cons_succ, i64_w, i32_w]; rfl
          refine kpure (i := 9) (N := (some 35)) (v := ?_) (a' := ?_) #[true, true, true, true, true, true, true, true, true, true, false, false] rfl rfl (by kernel_rfl) (fun _ _ _ h => h) (Or.inl ⟨by rfl, ?_⟩) ?_ ?_  -- 9 extract (tmp 26) 1
          rotate_left
          · intro w'; go_simp; with_reducible rfl
          rotate_left
          · simp only [Act.put, List.setIfInBounds_toArray, List.set_cons_zero, List.set_cons_succ, i64_w, i32_w]; rfl
          refine kpure (i := 10) (N := (some 9)) (v := ?_) (a' := ?_) #[true, true, true, true, true, true, true, true, true, true, true, false] rfl rfl (by kernel_rfl) (fun _ _ _ h => h) (Or.inl ⟨by rfl, ?_⟩) ?_ ?_  -- 10 assign (tmp 34)
          rotate_left
          · intro w'; go_simp; with_reducible rfl
          rotate_left
          · simp only [Act.put, List.setIfInBounds_toArray, List.set_cons_zero, List.set_cons_succ, i64_w, i32_w]; rfl
          refine kpure (i := 11) (N := (some 10)) (v := ?_) (a' := ?_) #[true, true, true, true, true, true, true, true, true, true, true, true] rfl rfl (by kernel_rfl) (fun _ _ _ h => h) (Or.inl ⟨by rfl, ?_⟩) ?_ ?_  -- 11 assign (tmp 35)
          rotate_left
          · intro w'; go_simp; with_reducible rfl
          rotate_left
          · simp only [Act.put, List.setIfInBounds_toArray, List.set_cons_zero, List.set_cons_succ, i64_w, i32_w]; rfl
          refine kdone (by kernel_rfl) (fun w1 hg => ?_)
          replace HO := HO.up hg
          have c2 := Hcell.out _ HO
          have f2 := HO.frozen 0 rfl
          clear hg
          go_wp2
          go_roundw
          case measure => simp [intOf]; omega
          case rel =>
            refine ⟨jn + 1, hi + o1 + o2, upd g (k + jn) s2, by omega, by go_num, by go_num, Q3, ⟨fun i => ?_⟩, ⟨fun i hi => ?_⟩, ⟨?_⟩, ?_⟩
            · unfold upd; split
              · exact Q4.out
              · exact Hg.out i
            · rw [upd_ne _ (by omega)]; exact Hz.out i hi
            · have h1 := vW_upd g (k + jn) s2 8 (by omega)
              rw [← Hfk.out] at h1
              have h2 := step_val h1 Q1.out HV.out
              rw [← Hq.out, Hpp.out, ← Nat.add_assoc, Nat.pow_succ]
              exact h2.trans (Nat.add_assoc _ _ _)
            · have := HO.set 0 rfl (k + jn) (.int .u64 (s2 : Nat))
              rw [wA_set] at this
              exact this
        · obtain rfl : jn = 4 := by omega
          have hs8 : (k : Int) + 4 < 8 := by omega
          have c2 : wr.cell? ⟨w.heap.size + 3, k + 4, none⟩ = some (.int .u64 (g (k + 4) : Nat)) := (HO.cell 0 rfl (k + 4)).trans (wA_get .u64 8 g (k + 4) (by omega))
          have f2 := HO.frozen 0 rfl
          go_wp2
          go_roundw
          case measure => simp [intOf]; omega
          case rel =>
            refine ⟨k + 1, upd g (k + 4) cn, by omega, by go_num, ⟨fun i => ?_⟩, ⟨fun i hi => ?_⟩, ⟨?_⟩, ?_⟩
            · unfold upd; split
              · exact Hc.out
              · exact Hg.out i
            · rw [upd_ne _ (by omega)]; exact Hz.out i (by omega)
            · have h1 := vW_upd g (k + 4) cn 8 (by omega)
              rw [Hz.out (k + 4) (by omega)] at h1
              have h2 := HV.out
              rw [mod_mul_succ n m k hm] at h2
              omega
            · have := HO.set 0 rfl (k + 4) (.int .u64 (cn : Nat))
              rw [wA_set] at this
              exact this
    · obtain rfl : k = 4 := by omega
      have c0 : ∀ j, j < 8 → wr.cell? ⟨w.heap.size + 3, j, none⟩ = some (.int .u64 (f j : Nat)) := fun j hj => (HO.cell 0 rfl j).trans (wA_get .u64 8 f j hj)
      have c00 := c0 0 (by omega)
      have c01 := c0 1 (by omega)
      have c02 := c0 2 (by omega)
      have c03 := c0 3 (by omega)
      clear c0
      have hsz := HO.lt 0 rfl
      obtain ⟨gl, hgl⟩ : ∃ x, x = wr.heap.size := ⟨_, rfl⟩
      have Hgl := Aside0.mk hgl
      clear hgl
      go_wp2
      rw [← Hgl.out, show ((4 : Nat) : Int) = 4 from rfl]
      go_loopw [72, 14] (fun j c wq => ∃ i cn : Nat, ∃ g : Nat → Nat, i ≤ 4 ∧ j = .int .i64 i ∧ c = .int .u64 cn ∧ Aside0 (cn < MM) ∧ Aside0 (∀ i, g i < MM) ∧ Aside0 (vW g 4 + MM ^ i * cn = vW f 4 + 38 * vW (fun t => f (4 + t)) i) ∧ Own w [(gl, .cells (wA .u64 4 g) 67 (0, 0)), (w.heap.size + 3, .cells (wA .u64 8 f) 109 (0, 0)), (w.heap.size + 2, .cells zero4 67 (0, 0)), (w.heap.size + 1, .cells (aggN m) 67 (0, 0)), (w.heap.size, .cells (aggN n) 67 (0, 0))] wq) (fun j _ _ => (4 - intOf j).toNat)
      case atStart =>
        refine ⟨0, 0, f, by omega, rfl, rfl, ⟨by unfold MM; omega⟩, Hf, ⟨by simp [vW]⟩, ?_⟩
        exact HO.alloc' (.cells (wA .u64 4 f) 67) Hgl.out.symm
      case round =>
        have HF := Hf
        have HV8 := HV
        clear HO HV Hz Hf c00 c01 c02 c03 hsz Hgl
        obtain ⟨i, cn, g, hj, rfl, rfl, Hc, Hg, HV, HO⟩ := hrel
        by_cases hjlt : i < 4
        · have hjlti : (i : Int) < 4 := by omega
          have hji : (0 : Int) ≤ (i : Int) := by omega
          have hs8 : (4 : Int) + (i : Int) < 8 := by omega
          have hn0 : wr.cell? ⟨w.heap.size + 3, 4 + i, none⟩ = some (.int .u64 (f (4 + i) : Nat)) := (HO.cell 1 rfl (4 + i)).trans (wA_get .u64 8 f (4 + i) (by omega))
          have hpb := mul_bd (HF.out (4 + i)) (show 38 < MM by unfold MM; omega)
          obtain ⟨q1, q2, q3, q4⟩ := mac (f (4 + i) * 38) (g i) cn hpb (Hg.out _) Hc.out
          have a1 := add75_0 (f (4 + i) * 38 % MM) (g i)
          have a2 := add75_0 (adS (f (4 + i) * 38 % MM) (g i) 0) cn
          have HM := mulHL (f (4 + i)) 38 (HF.out (4 + i)) (show 38 < MM by unfold MM; omega)
          obtain ⟨fk, hfk⟩ : ∃ x, x = g i := ⟨_, rfl⟩
          have hcell : ∀ W, Own w [(gl, .cells (wA .u64 4 g) 67 (0, 0)), (w.heap.size + 3, .cells (wA .u64 8 f) 109 (0, 0)), (w.heap.size + 2, .cells zero4 67 (0, 0)), (w.heap.size + 1, .cells (aggN m) 67 (0, 0)), (w.heap.size, .cells (aggN n) 67 (0, 0))] W → W.cell? ⟨gl, i, none⟩ = some (.int .u64 (fk : Nat)) := fun W h => hfk ▸ (h.cell 0 rfl i).trans (wA_get .u64 4 g i (by omega))
          rw [← hfk] at q1 q2 q3 q4 a1 a2
          obtain ⟨ft, hft⟩ : ∃ x, x = f (4 + i) := ⟨_, rfl⟩
          rw [← hft] at hn0 q1 q2 q3 q4 a1 a2 HM hpb
          obtain ⟨p, hp⟩ : ∃ x, x = ft * 38 := ⟨_, rfl⟩
          rw [← hp] at q1 q2 q3 q4 a1 a2 HM
          generalize p / MM = hi at HM q1 q2 q3
          generalize p % MM = lo at *
          generalize adS lo fk 0 = s1 at *
          generalize adC lo fk 0 = o1 at *
          generalize adS s1 cn 0 = s2 at *
          generalize adC s1 cn 0 = o2 at *
          have hb1 : (hi : Int) + (o1 : Int) < 18446744073709551616 := by unfold MM at q2; omega
          have hb2 : (hi : Int) + (o1 : Int) + (o2 : Int) < 18446744073709551616 := by unfold MM at q3; omega
          have HM := Lib.hid HM
          have Hcell := Lib.hid hcell
          have Hp := Aside0.mk hp
          have Hft := Aside0.mk hft
          have Hfk := Aside0.mk hfk
          have Q1 := Aside0.mk q1
          have Q3 := Aside0.mk q3
          have Q4 := Aside0.mk q4
          clear hcell hp hft hfk q1 q2 q3 q4 hpb
          go_wp2_with (go_at_call 95; refine (HM.out _).mono ?_; rintro e w1 ⟨rfl, hd⟩; replace HO := HO.up hd; have c2 := Hcell.out _ HO; have f2 := HO.frozen 0 rfl)
          go_roundw
          case measure => simp [intOf]; omega
          case rel =>
            refine ⟨i + 1, hi + o1 + o2, upd g i s2, by omega, by go_num, by go_num, Q3, ⟨fun j => ?_⟩, ⟨?_⟩, ?_⟩
            · unfold upd; split
              · exact Q4.out
              · exact Hg.out j
            · have h1 := vW_upd g i s2 4 (by omega)
              rw [← Hfk.out] at h1
              have h2 := step_val h1 Q1.out HV.out
              show _ = _ + 38 * (vW _ i + MM ^ i * f (4 + i))
              rw [Nat.pow_succ, ← Hft.out, h2, Hp.out, Nat.mul_add, Nat.mul_left_comm 38, Nat.mul_comm 38 ft]; omega
            · have := HO.set 0 rfl i (.int .u64 (s2 : Nat))
              rw [wA_set] at this
              exact this
        · obtain rfl : i = 4 := by omega
          have hlt : vW g 4 < MM ^ 4 := vW_lt Hg.out 4
          have HL := left_any (vW g 4) cn
          have hag : aggN (vW g 4) = #[.int .u64 (g 0 : Nat), .int .u64 (g 1 : Nat), .int .u64 (g 2 : Nat), .int .u64 (g 3 : Nat)] := by
            unfold aggN
            rw [wd_vW Hg.out 4 0 (by omega), wd_vW Hg.out 4 1 (by omega), wd_vW Hg.out 4 2 (by omega), wd_vW Hg.out 4 3 (by omega)]
          have hres : (vW g 4 + MM ^ 4 * cn) % P25 = n * m % P25 := by
            have h8 := HV8.out
            rw [Nat.mod_eq_of_lt hn, show (8 : Nat) = 4 + 4 from rfl, vW_split, MM4] at h8
            rw [HV.out, ← h8, Nat.add_mul, Nat.mul_assoc, Nat.mul_left_comm 2 P25, ← Nat.add_assoc, Nat.add_comm (vW f 4) (P25 * _), Nat.add_assoc, Nat.mul_add_mod]
          rw [hag, hres] at HL
          have HL := Lib.hid (fun W => HL W hlt Hc.out)
          have c0 := HO.cell 0 rfl 0
          have c1 := HO.cell 0 rfl 1
          have c2 := HO.cell 0 rfl 2
          have c3 := HO.cell 0 rfl 3
          rw [wA_get .u64 4 g _ (by omega)] at c0 c1 c2 c3
          clear hres hag hlt HV HV8
          go_wp2_with (go_at_call 56; refine (HL.out _).mono ?_; rintro e w1 ⟨rfl, hd⟩; replace HO := HO.up hd; have d2 := HO.cell 2 rfl; have f2 := HO.frozen 2 rfl; unfold zero4 at d2; unfold aggN)
          exact bodyPost_ret (v := .agg (aggN (n * m % P25))) (by simp [results, Try.results65, go_sem, aggN, *]) rfl ⟨rfl, ((((HO.set 2 rfl 0 _).set 2 rfl 1 _).set 2 rfl 2 _).set 2 rfl 3 _).below⟩
end Go.Proofs.Ytdmpnogjpgoaaaa

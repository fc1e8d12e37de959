import Derived.Test.YtdmpnogjpgoaaaaLimbW2
set_option linter.unusedSimpArgs false
namespace Go.Proofs.Ytdmpnogjpgoaaaa
open Go.RowKit Go.Proofs.YtdmpnogjpgoaaaaW.PrintWords Go.Proofs.YtdmpnogjpgoaaaaW.PrintLast Go.Proofs.YtdmpnogjpgoaaaaW.PrintMore
def mk32 (v k : Nat) : List Value := ((byts 32 v).take k).map (fun n : Nat => Value.int .u8 n) ++ List.replicate (32 - k) (.int .u8 0)
theorem mk32_len (v k : Nat) (h : k ≤ 32) : (mk32 v k).length = 32 := by
  unfold mk32
  rw [List.length_append, List.length_map, List.length_take, byts_len, List.length_replicate]; omega
theorem byts_get : ∀ (n v k : Nat), k < n → (byts n v)[k]? = some (v / 256 ^ k % 256)
  | 0, _, _, h => by omega
  | n + 1, v, 0, _ => by simp [byts]
  | n + 1, v, k + 1, h => by
    show (byts n (v / 256))[k]? = _
    rw [byts_get n _ k (by omega), Nat.pow_succ, Nat.mul_comm, Nat.div_div_eq_div_mul]
theorem mk32_set (v k : Nat) (h : k < 32) : (mk32 v k).toArray.setIfInBounds k (.int .u8 ((v / 256 ^ k % 256 : Nat) : Int)) = (mk32 v (k + 1)).toArray := by
  rw [List.setIfInBounds_toArray]
  congr 1
  unfold mk32
  have hl : (((byts 32 v).take k).map (fun n : Nat => Value.int .u8 n)).length = k := by rw [List.length_map, List.length_take, byts_len]; omega
  rw [take_next (byts_get 32 v k h), List.map_append, List.map_singleton, List.set_append_right _ _ (by omega), hl, Nat.sub_self]
  rw [show 32 - k = (32 - (k + 1)) + 1 by omega, List.replicate_succ, List.set_cons_zero, List.append_assoc]; rfl
theorem byteval {v q r : Nat} (hr : r < 8) : wd v q / 2 ^ (8 * r) % 256 = v / 256 ^ (8 * q + r) % 256 := by
  have e8 : (2 : Nat) ^ (8 * r) = 256 ^ r := by rw [Nat.pow_mul]
  rw [e8, pow_split, ← Nat.div_div_eq_div_mul]
  unfold wd
  generalize v / 18446744073709551616 ^ q = x
  have e : (18446744073709551616 : Nat) = 256 ^ r * 256 ^ (8 - r) := by rw [← Nat.pow_add, show r + (8 - r) = 8 by omega]
  rw [e, Nat.mod_mul_right_div_self, Nat.mod_mod_of_dvd]
  exact ⟨256 ^ (7 - r), by rw [← Nat.pow_succ']; congr 1; omega⟩
theorem make32 (W : World) : (Instr.makeSlice 63 (.int .i64 32) (.int .i64 32)).run Try.prog W = .ok (.slice (some ⟨W.heap.size, 0, none⟩) 32 32) (W.alloc (.cells (mk32 0 0).toArray 5)) := by
  obtain ⟨i0, hi, hzz⟩ := Option.map_eq_some_iff.1 (show (Try.prog.info? 5).map (fun i => (i.zero, i.size, i.bytes)) = some (some (.int .u8 0), 1, 1) by kernel_rfl)
  simp only [Prod.mk.injEq] at hzz
  obtain ⟨hz0, hz1, hz2⟩ := hzz
  have := run_make (P := Try.prog) W 63 5 i0 (.int .u8 0) Try.underlying63 hi hz0 .i64 .i64 32 32 (by omega) (by omega) (by rw [hz2]; decide) (by omega)
  rw [this, hz1, show madeCells (Value.int IntKind.u8 0).cells (Int.toNat 32 * 1) = (mk32 0 0).toArray by kernel_rfl]
  rfl
attribute [local go_sem high] make32
theorem conv32 (v b : Nat) (W : World) (h : W.heap[b]? = some (.cells (mk32 v 32).toArray 5 (0, 0))) : (convert 63 9 (.slice (some ⟨b, 0, none⟩) 32 32)).run Try.prog W = .ok (.string (textV v)) W := by
  refine string_of_reads (xs := I (byts 32 v)) Try.underlying63 Try.underlying5 Try.underlying9 ?_
  refine ⟨by rw [I_len, byts_len], by omega, fun _ => ⟨_, rfl, fun j hj => ?_⟩⟩
  have e : (Addr.mk b 0 none).add j = ⟨b, j, none⟩ := by
    simp [Addr.add]
    intro h; exact h.symm
  rw [e, blk_cell h]
  unfold mk32 I
  rw [List.getElem?_toArray, List.take_of_length_le (by rw [byts_len]; omega), Nat.sub_self, List.replicate_zero, List.append_nil, List.getElem?_map, byts_get 32 v j hj]
  simp [List.getD_eq_getElem?_getD, byts_get 32 v j hj]
  try omega
set_option maxHeartbeats 400000 in
set_option maxRecDepth 100000 in
theorem text_any (v : Nat) (w : World) :
    Calls Try.prog 58 #[.agg (aggN v)] w fun e w' => e = .returned (.string (textV v)) ∧ Below w.heap.size w w' := by
  have hu65 := Try.underlying67
  unfold aggN
  go_enter Try.func58, Try.ntmps58
  go_wp2
  go_loopw [8] (fun i wr => ∃ k : Nat, k ≤ 32 ∧ i = .int .i64 k ∧ Aside0 (wr.heap[w.heap.size + 1]? = some (.cells (mk32 v k).toArray 5 (0, 0))) ∧ Aside0 (wr.heap[w.heap.size]? = some (.cells (aggN v) 67 (0, 0))) ∧ Aside0 (Below w.heap.size w wr)) (fun i _ => (32 - intOf i).toNat)
  case atStart =>
    refine ⟨0, by omega, rfl, ⟨?_⟩, ⟨blk_alloc (heap_alloc_new w _) _⟩, ⟨below_alloc (below_alloc (Below.refl _ _) _) _⟩⟩
    rw [show w.heap.size + 1 = (w.alloc (.cells (aggN v) 67)).heap.size by simp]
    exact (heap_alloc_new _ _).trans rfl
  case round =>
    obtain ⟨k, hk, rfl, HB, HB0, HBel⟩ := hrel
    by_cases hlt : k < 32
    · have hlen := mk32_len v k hk
      have hcell : ∃ u, wr.cell? ⟨w.heap.size + 1, k, none⟩ = some u := ⟨_, by rw [blk_cell HB.out, List.getElem?_toArray]; exact List.getElem?_eq_getElem (by omega)⟩
      obtain ⟨u, hu⟩ := hcell
      have hfr := blk_frozen HB.out k
      clear hlen
      have p0 : (0 : Int) ≤ (k : Int) := by omega
      have p1 : (k : Int) < 32 := by omega
      rcases (show k < 8 ∨ (8 ≤ k ∧ k < 16) ∨ (16 ≤ k ∧ k < 24) ∨ (24 ≤ k ∧ k < 32) by omega) with hq | hq | hq | hq
      · have hdiv : Int.tdiv (k : Int) 8 = 0 := by show ((k / 8 : Nat) : Int) = 0; omega
        obtain ⟨r, hr0, hr8⟩ : ∃ r, k = 0 + r ∧ r < 8 := ⟨k - 0, by omega, by omega⟩
        have hwq : wrap64 (0 : Int) = 0 := wri (by omega)
        have hw8 : wrap64 (8 * (r : Int)) = 8 * (r : Int) := wri (by omega)
        have h8a : (0 : Int) ≤ 8 * (r : Int) := by omega
        have h8b : 8 * (r : Int) ≤ 64 := by omega
        have h8c : 8 * (r : Int) < 64 := by omega
        have hr := Lib.hid hr0
        have hmod : Int.tmod (k : Int) 8 = (r : Int) := by show ((k % 8 : Nat) : Int) = _; omega
        clear hr0
        have c0 : wr.cell? ⟨w.heap.size, 0, none⟩ = some (.int .u64 (wd v 0)) := by rw [blk_cell HB0.out]; rfl
        have hby := Lib.hid (show ((wd v 0 : Nat) : Int) / 2 ^ (8 * r) % 256 = ((v / 256 ^ k % 256 : Nat) : Int) by
          rw [hr.out, ← byteval (q := 0) hr8, show (2 : Int) ^ (8 * r) = ((2 ^ (8 * r) : Nat) : Int) by rw [Int.natCast_pow]; rfl, ← Int.natCast_ediv]
          generalize wd v 0 / 2 ^ (8 * r) = y
          omega)
        go_wp2
        refine ⟨⟨k + 1, by omega, by go_num, ⟨?_⟩, ⟨?_⟩, ⟨?_⟩⟩, by simp [intOf]; omega⟩
        · refine (blk_set HB.out k _).trans ?_
          rw [← mk32_set v k hlt, hby.out]
        · rw [Below.heap_setCell _ _ _ _ (by simp)]
          exact HB0.out
        · exact below_set HBel.out (Nat.le_succ _)
      · have hdiv : Int.tdiv (k : Int) 8 = 1 := by show ((k / 8 : Nat) : Int) = 1; omega
        obtain ⟨r, hr0, hr8⟩ : ∃ r, k = 8 + r ∧ r < 8 := ⟨k - 8, by omega, by omega⟩
        have hwq : wrap64 (1 : Int) = 1 := wri (by omega)
        have hw8 : wrap64 (8 * (r : Int)) = 8 * (r : Int) := wri (by omega)
        have h8a : (0 : Int) ≤ 8 * (r : Int) := by omega
        have h8b : 8 * (r : Int) ≤ 64 := by omega
        have h8c : 8 * (r : Int) < 64 := by omega
        have hr := Lib.hid hr0
        have hmod : Int.tmod (k : Int) 8 = (r : Int) := by show ((k % 8 : Nat) : Int) = _; omega
        clear hr0
        have c0 : wr.cell? ⟨w.heap.size, 1, none⟩ = some (.int .u64 (wd v 1)) := by rw [blk_cell HB0.out]; rfl
        have hby := Lib.hid (show ((wd v 1 : Nat) : Int) / 2 ^ (8 * r) % 256 = ((v / 256 ^ k % 256 : Nat) : Int) by
          rw [hr.out, ← byteval (q := 1) hr8, show (2 : Int) ^ (8 * r) = ((2 ^ (8 * r) : Nat) : Int) by rw [Int.natCast_pow]; rfl, ← Int.natCast_ediv]
          generalize wd v 1 / 2 ^ (8 * r) = y
          omega)
        go_wp2
        refine ⟨⟨k + 1, by omega, by go_num, ⟨?_⟩, ⟨?_⟩, ⟨?_⟩⟩, by simp [intOf]; omega⟩
        · refine (blk_set HB.out k _).trans ?_
          rw [← mk32_set v k hlt, hby.out]
        · rw [Below.heap_setCell _ _ _ _ (by simp)]
          exact HB0.out
        · exact below_set HBel.out (Nat.le_succ _)
      · have hdiv : Int.tdiv (k : Int) 8 = 2 := by show ((k / 8 : Nat) : Int) = 2; omega
        obtain ⟨r, hr0, hr8⟩ : ∃ r, k = 16 + r ∧ r < 8 := ⟨k - 16, by omega, by omega⟩
        have hwq : wrap64 (2 : Int) = 2 := wri (by omega)
        have hw8 : wrap64 (8 * (r : Int)) = 8 * (r : Int) := wri (by omega)
        have h8a : (0 : Int) ≤ 8 * (r : Int) := by omega
        have h8b : 8 * (r : Int) ≤ 64 := by omega
        have h8c : 8 * (r : Int) < 64 := by omega
        have hr := Lib.hid hr0
        have hmod : Int.tmod (k : Int) 8 = (r : Int) := by show ((k % 8 : Nat) : Int) = _; omega
        clear hr0
        have c0 : wr.cell? ⟨w.heap.size, 2, none⟩ = some (.int .u64 (wd v 2)) := by rw [blk_cell HB0.out]; rfl
        have hby := Lib.hid (show ((wd v 2 : Nat) : Int) / 2 ^ (8 * r) % 256 = ((v / 256 ^ k % 256 : Nat) : Int) by
          rw [hr.out, ← byteval (q := 2) hr8, show (2 : Int) ^ (8 * r) = ((2 ^ (8 * r) : Nat) : Int) by rw [Int.natCast_pow]; rfl, ← Int.natCast_ediv]
          generalize wd v 2 / 2 ^ (8 * r) = y
          omega)
        go_wp2
        refine ⟨⟨k + 1, by omega, by go_num, ⟨?_⟩, ⟨?_⟩, ⟨?_⟩⟩, by simp [intOf]; omega⟩
        · refine (blk_set HB.out k _).trans ?_
          rw [← mk32_set v k hlt, hby.out]
        · rw [Below.heap_setCell _ _ _ _ (by simp)]
          exact HB0.out
        · exact below_set HBel.out (Nat.le_succ _)
      · have hdiv : Int.tdiv (k : Int) 8 = 3 := by show ((k / 8 : Nat) : Int) = 3; omega
        obtain ⟨r, hr0, hr8⟩ : ∃ r, k = 24 + r ∧ r < 8 := ⟨k - 24, by omega, by omega⟩
        have hwq : wrap64 (3 : Int) = 3 := wri (by omega)
        have hw8 : wrap64 (8 * (r : Int)) = 8 * (r : Int) := wri (by omega)
        have h8a : (0 : Int) ≤ 8 * (r : Int) := by omega
        have h8b : 8 * (r : Int) ≤ 64 := by omega
        have h8c : 8 * (r : Int) < 64 := by omega
        have hr := Lib.hid hr0
        have hmod : Int.tmod (k : Int) 8 = (r : Int) := by show ((k % 8 : Nat) : Int) = _; omega
        clear hr0
        have c0 : wr.cell? ⟨w.heap.size, 3, none⟩ = some (.int .u64 (wd v 3)) := by rw [blk_cell HB0.out]; rfl
        have hby := Lib.hid (show ((wd v 3 : Nat) : Int) / 2 ^ (8 * r) % 256 = ((v / 256 ^ k % 256 : Nat) : Int) by
          rw [hr.out, ← byteval (q := 3) hr8, show (2 : Int) ^ (8 * r) = ((2 ^ (8 * r) : Nat) : Int) by rw [Int.natCast_pow]; rfl, ← Int.natCast_ediv]
          generalize wd v 3 / 2 ^ (8 * r) = y
          omega)
        go_wp2
        refine ⟨⟨k + 1, by omega, by go_num, ⟨?_⟩, ⟨?_⟩, ⟨?_⟩⟩, by simp [intOf]; omega⟩
        · refine (blk_set HB.out k _).trans ?_
          rw [← mk32_set v k hlt, hby.out]
        · rw [Below.heap_setCell _ _ _ _ (by simp)]
          exact HB0.out
        · exact below_set HBel.out (Nat.le_succ _)
    · have e : k = 32 := by omega
      subst e
      have hcv := conv32 v _ _ HB.out
      go_wp2
      go_ret
      exact ⟨rfl, HBel.out⟩
end Go.Proofs.Ytdmpnogjpgoaaaa

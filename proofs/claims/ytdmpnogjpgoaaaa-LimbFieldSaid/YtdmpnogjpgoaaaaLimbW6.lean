import Derived.Test.YtdmpnogjpgoaaaaLimbW5
set_option linter.unusedSimpArgs false
namespace Go.Proofs.Ytdmpnogjpgoaaaa
open Go.RowKit Go.Proofs.YtdmpnogjpgoaaaaW.PrintWords Go.Proofs.YtdmpnogjpgoaaaaW.PrintLast Go.Proofs.YtdmpnogjpgoaaaaW.PrintMore
attribute [local go_sem high] sub76 sub76_0
set_option maxHeartbeats 400000 in
set_option maxRecDepth 100000 in
theorem less_any (n m : Nat) (w : World) (hm : m < MM ^ 4) :
    Calls Try.prog 63 #[.agg (aggN n), .agg (aggN m)] w fun e w' => e = .returned (.tuple #[.agg (aggN (n + MM ^ 4 - m)), .int .u64 (bw n m 4 : Nat)]) ∧ Below w.heap.size w w' := by
  have hu65 := Try.underlying67
  have HS := Lib.hid (fun k (hk : k < 4) => sb_wd n m k hm hk)
  generalize n + MM ^ 4 - m = s at *
  unfold aggN
  go_enter Try.func63, Try.ntmps63
  go_wp2
  go_loopw [9, 7] (fun i c wr => ∃ k : Nat, k ≤ 4 ∧ i = .int .i64 k ∧ c = .int .u64 (bw n m k : Nat) ∧ Aside0 (wr.heap[w.heap.size + 3]? = some (.cells (pk s k) 67 (0, 0))) ∧ Aside0 (wr.heap[w.heap.size + 2]? = some (.cells #[.int .u64 0, .int .u64 0, .int .u64 0, .int .u64 0] 67 (0, 0))) ∧ Aside0 (wr.heap[w.heap.size]? = some (.cells (aggN n) 67 (0, 0))) ∧ Aside0 (wr.heap[w.heap.size + 1]? = some (.cells (aggN m) 67 (0, 0))) ∧ Aside0 (Below w.heap.size w wr)) (fun i _ _ => (4 - intOf i).toNat)
  case atStart =>
    obtain ⟨h0, h1, h2, h3⟩ := blocks4 w (.cells (aggN n) 67) (.cells (aggN m) 67) (.cells #[.int .u64 0, .int .u64 0, .int .u64 0, .int .u64 0] 67) (.cells (pk s 0) 67)
    exact ⟨0, by omega, rfl, by rw [bw_0]; rfl, ⟨h3⟩, ⟨h2⟩, ⟨h0⟩, ⟨h1⟩, ⟨below_alloc (below_alloc (below_alloc (below_alloc (Below.refl _ _) _) _) _) _⟩⟩
  case round =>
    obtain ⟨k, hk, rfl, rfl, HB, HB0, HN, HM, HBel⟩ := hrel
    rcases (show k = 0 ∨ k = 1 ∨ k = 2 ∨ k = 3 ∨ k = 4 by omega) with rfl | rfl | rfl | rfl | rfl
    · have c0 : wr.cell? ⟨w.heap.size, 0, none⟩ = some (.int .u64 (wd n 0 : Nat)) := by rw [blk_cell HN.out]; rfl
      have c1 : wr.cell? ⟨w.heap.size + 1, 0, none⟩ = some (.int .u64 (wd m 0 : Nat)) := by rw [blk_cell HM.out]; rfl
      have c2 : wr.cell? ⟨w.heap.size + 3, 0, none⟩ = some (.int .u64 0) := by rw [blk_cell HB.out]; rfl
      have f2 := blk_frozen HB.out 0
      have hcy := bw_le n m 0
      have e1 := HS.out 0 (by omega)
      have e2 := bw_step n m 0
      generalize hcc : bw n m 0 = cc at *
      go_wp2_with fail
      go_region_held3 (fun w' => w'.cell? ⟨w.heap.size, 0, none⟩ = some (.int .u64 (wd n 0 : Nat)) ∧ w'.cell? ⟨w.heap.size + 1, 0, none⟩ = some (.int .u64 (wd m 0 : Nat))) (first | (exact ⟨(far3 _ (by dsimp only; omega)).trans c0, (far3 _ (by dsimp only; omega)).trans c1⟩) | go_keep) (simp only [sub76 _ _ _ hcy, e1, e2])
      go_wp2
      refine ⟨⟨0 + 1, by omega, by go_num, rfl, ⟨?_⟩, ⟨?_⟩, ⟨?_⟩, ⟨?_⟩, ⟨below_drew (below_set HBel.out (by omega))⟩⟩, by simp [intOf]⟩
      · exact blk_drew (blk_set HB.out 0 _)
      · exact blk_drew ((Below.heap_setCell _ _ _ _ (by dsimp only; omega)).trans HB0.out)
      · exact blk_drew ((Below.heap_setCell _ _ _ _ (by dsimp only; omega)).trans HN.out)
      · exact blk_drew ((Below.heap_setCell _ _ _ _ (by dsimp only; omega)).trans HM.out)
    · have c0 : wr.cell? ⟨w.heap.size, 1, none⟩ = some (.int .u64 (wd n 1 : Nat)) := by rw [blk_cell HN.out]; rfl
      have c1 : wr.cell? ⟨w.heap.size + 1, 1, none⟩ = some (.int .u64 (wd m 1 : Nat)) := by rw [blk_cell HM.out]; rfl
      have c2 : wr.cell? ⟨w.heap.size + 3, 1, none⟩ = some (.int .u64 0) := by rw [blk_cell HB.out]; rfl
      have f2 := blk_frozen HB.out 1
      have hcy := bw_le n m 1
      have e1 := HS.out 1 (by omega)
      have e2 := bw_step n m 1
      generalize hcc : bw n m 1 = cc at *
      go_wp2_with fail
      go_region_held3 (fun w' => w'.cell? ⟨w.heap.size, 1, none⟩ = some (.int .u64 (wd n 1 : Nat)) ∧ w'.cell? ⟨w.heap.size + 1, 1, none⟩ = some (.int .u64 (wd m 1 : Nat))) (first | (exact ⟨(far3 _ (by dsimp only; omega)).trans c0, (far3 _ (by dsimp only; omega)).trans c1⟩) | go_keep) (simp only [sub76 _ _ _ hcy, e1, e2])
      go_wp2
      refine ⟨⟨1 + 1, by omega, by go_num, rfl, ⟨?_⟩, ⟨?_⟩, ⟨?_⟩, ⟨?_⟩, ⟨below_drew (below_set HBel.out (by omega))⟩⟩, by simp [intOf]⟩
      · exact blk_drew (blk_set HB.out 1 _)
      · exact blk_drew ((Below.heap_setCell _ _ _ _ (by dsimp only; omega)).trans HB0.out)
      · exact blk_drew ((Below.heap_setCell _ _ _ _ (by dsimp only; omega)).trans HN.out)
      · exact blk_drew ((Below.heap_setCell _ _ _ _ (by dsimp only; omega)).trans HM.out)
    · have c0 : wr.cell? ⟨w.heap.size, 2, none⟩ = some (.int .u64 (wd n 2 : Nat)) := by rw [blk_cell HN.out]; rfl
      have c1 : wr.cell? ⟨w.heap.size + 1, 2, none⟩ = some (.int .u64 (wd m 2 : Nat)) := by rw [blk_cell HM.out]; rfl
      have c2 : wr.cell? ⟨w.heap.size + 3, 2, none⟩ = some (.int .u64 0) := by rw [blk_cell HB.out]; rfl
      have f2 := blk_frozen HB.out 2
      have hcy := bw_le n m 2
      have e1 := HS.out 2 (by omega)
      have e2 := bw_step n m 2
      generalize hcc : bw n m 2 = cc at *
      go_wp2_with fail
      go_region_held3 (fun w' => w'.cell? ⟨w.heap.size, 2, none⟩ = some (.int .u64 (wd n 2 : Nat)) ∧ w'.cell? ⟨w.heap.size + 1, 2, none⟩ = some (.int .u64 (wd m 2 : Nat))) (first | (exact ⟨(far3 _ (by dsimp only; omega)).trans c0, (far3 _ (by dsimp only; omega)).trans c1⟩) | go_keep) (simp only [sub76 _ _ _ hcy, e1, e2])
      go_wp2
      refine ⟨⟨2 + 1, by omega, by go_num, rfl, ⟨?_⟩, ⟨?_⟩, ⟨?_⟩, ⟨?_⟩, ⟨below_drew (below_set HBel.out (by omega))⟩⟩, by simp [intOf]⟩
      · exact blk_drew (blk_set HB.out 2 _)
      · exact blk_drew ((Below.heap_setCell _ _ _ _ (by dsimp only; omega)).trans HB0.out)
      · exact blk_drew ((Below.heap_setCell _ _ _ _ (by dsimp only; omega)).trans HN.out)
      · exact blk_drew ((Below.heap_setCell _ _ _ _ (by dsimp only; omega)).trans HM.out)
    · have c0 : wr.cell? ⟨w.heap.size, 3, none⟩ = some (.int .u64 (wd n 3 : Nat)) := by rw [blk_cell HN.out]; rfl
      have c1 : wr.cell? ⟨w.heap.size + 1, 3, none⟩ = some (.int .u64 (wd m 3 : Nat)) := by rw [blk_cell HM.out]; rfl
      have c2 : wr.cell? ⟨w.heap.size + 3, 3, none⟩ = some (.int .u64 0) := by rw [blk_cell HB.out]; rfl
      have f2 := blk_frozen HB.out 3
      have hcy := bw_le n m 3
      have e1 := HS.out 3 (by omega)
      have e2 := bw_step n m 3
      generalize hcc : bw n m 3 = cc at *
      go_wp2_with fail
      go_region_held3 (fun w' => w'.cell? ⟨w.heap.size, 3, none⟩ = some (.int .u64 (wd n 3 : Nat)) ∧ w'.cell? ⟨w.heap.size + 1, 3, none⟩ = some (.int .u64 (wd m 3 : Nat))) (first | (exact ⟨(far3 _ (by dsimp only; omega)).trans c0, (far3 _ (by dsimp only; omega)).trans c1⟩) | go_keep) (simp only [sub76 _ _ _ hcy, e1, e2])
      go_wp2
      refine ⟨⟨3 + 1, by omega, by go_num, rfl, ⟨?_⟩, ⟨?_⟩, ⟨?_⟩, ⟨?_⟩, ⟨below_drew (below_set HBel.out (by omega))⟩⟩, by simp [intOf]⟩
      · exact blk_drew (blk_set HB.out 3 _)
      · exact blk_drew ((Below.heap_setCell _ _ _ _ (by dsimp only; omega)).trans HB0.out)
      · exact blk_drew ((Below.heap_setCell _ _ _ _ (by dsimp only; omega)).trans HN.out)
      · exact blk_drew ((Below.heap_setCell _ _ _ _ (by dsimp only; omega)).trans HM.out)
    · have c0 : wr.cell? ⟨w.heap.size + 3, 0, none⟩ = some (.int .u64 (wd s 0)) := by rw [blk_cell HB.out]; rfl
      have c1 : wr.cell? ⟨w.heap.size + 3, 1, none⟩ = some (.int .u64 (wd s 1)) := by rw [blk_cell HB.out]; rfl
      have c2 : wr.cell? ⟨w.heap.size + 3, 2, none⟩ = some (.int .u64 (wd s 2)) := by rw [blk_cell HB.out]; rfl
      have c3 : wr.cell? ⟨w.heap.size + 3, 3, none⟩ = some (.int .u64 (wd s 3)) := by rw [blk_cell HB.out]; rfl
      have d0 : wr.cell? ⟨w.heap.size + 2, 0, none⟩ = some (.int .u64 0) := by rw [blk_cell HB0.out]; rfl
      have d1 : wr.cell? ⟨w.heap.size + 2, 1, none⟩ = some (.int .u64 0) := by rw [blk_cell HB0.out]; rfl
      have d2 : wr.cell? ⟨w.heap.size + 2, 2, none⟩ = some (.int .u64 0) := by rw [blk_cell HB0.out]; rfl
      have d3 : wr.cell? ⟨w.heap.size + 2, 3, none⟩ = some (.int .u64 0) := by rw [blk_cell HB0.out]; rfl
      have f0 := blk_frozen HB0.out 0
      have f1 := blk_frozen HB0.out 1
      have f2 := blk_frozen HB0.out 2
      have f3 := blk_frozen HB0.out 3
      go_wp2
      exact bodyPost_ret (v := .tuple #[.agg (aggN s), .int .u64 (bw n m 4 : Nat)]) (by simp [results, Try.results63, go_sem, aggN, *]) rfl ⟨rfl, below_set (below_set (below_set (below_set HBel.out (by omega)) (by omega)) (by omega)) (by omega)⟩
end Go.Proofs.Ytdmpnogjpgoaaaa

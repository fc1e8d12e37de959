import Derived.Test.YtdmpnogjpgoaaaaLimbY3
set_option linter.unusedSimpArgs false
namespace Go.Proofs.Ytdmpnogjpgoaaaa
open Go.RowKit Go.Proofs.YtdmpnogjpgoaaaaW.PrintWords Go.Proofs.YtdmpnogjpgoaaaaW.PrintLast Go.Proofs.YtdmpnogjpgoaaaaW.PrintMore
theorem setCell_same {w : World} {g : Nat} {t : TypeId} {fr : Nat × Nat} {v : Value} (h : w.heap[g]? = some (.cells #[v] t fr)) : Below w.heap.size w (w.setCell ⟨g, 0, none⟩ v) :=
  ⟨rfl, rfl, rfl, by simp [World.setCell], fun k _ => by
    by_cases hk : k = g
    · subst hk
      simp [World.setCell, Array.getElem?_modify, h]
    · exact Below.heap_setCell w _ _ _ hk⟩
theorem gr_then {a b c : World} (h : Gr a b) (k : Below b.heap.size b c) : Below a.heap.size a c := Gr.trans h k
attribute [local irreducible] Calls
set_option maxHeartbeats 1000000 in
set_option maxRecDepth 100000 in
theorem told1_any (s : ByteArray) (gb ga : Nat) (w : World) (hs : s.size = 32) (hbb : w.heap[gb]? = some (.cells #[.pointer (some ⟨ga, 0, none⟩)] 39 (0, 0))) (haa : w.heap[ga]? = some (.cells #[.bool true] 4 (0, 0))) :
    Calls Try.prog 67 #[.string s, .int .i64 0, .pointer (some ⟨gb, 0, none⟩)] w fun e w' => e = .returned (.string s) ∧ Below w.heap.size w w' := by
  have hs1 : ((s.size : Int) == 32) = true := by rw [hs]; rfl
  have hs2 : ((s.size : Int) != 32) = false := by rw [hs]; rfl
  have HBB := Aside0.mk hbb
  have HAA := Aside0.mk haa
  clear hs hbb haa
  go_enter Try.func67, Try.ntmps67
  go_wp2_with fail
  refine kstart (n := 15) (ds := [14]) #[false, false, false, false, false, false, false, false, false, false, false, false, false, false, false] (by kernel_rfl) rfl rfl ?_
  refine ktake (i := 0) (N := (some 6)) (v := ?_) (a' := ?_) #[true, false, false, false, false, false, false, false, false, false, false, false, false, false, false] rfl rfl (by kernel_rfl) (fun _ _ _ h => h) (Or.inl ⟨by rfl, fun w1 hg => ?_⟩) ?_ ?_  -- 0 load 39 (tmp 2)
  rotate_left
  · refine RunG_value ?_; have c0 := blk_cell (blk_below HBB.out hg) 0; have c1 := blk_cell (blk_below HAA.out hg) 0; go_simp; with_reducible rfl
  rotate_left
  · simp only [Act.put, List.setIfInBounds_toArray, List.set_cons_zero, List.set_cons_succ, i64_w, i32_w]; rfl
  refine ktake (i := 1) (N := (some 7)) (v := ?_) (a' := ?_) #[true, true, false, false, false, false, false, false, false, false, false, false, false, false, false] rfl rfl (by kernel_rfl) (fun _ _ _ h => h) (Or.inl ⟨by rfl, fun w1 hg => ?_⟩) ?_ ?_  -- 1 load 39 (tmp 2)
  rotate_left
  · refine RunG_value ?_; have c0 := blk_cell (blk_below HBB.out hg) 0; have c1 := blk_cell (blk_below HAA.out hg) 0; go_simp; with_reducible rfl
  rotate_left
  · simp only [Act.put, List.setIfInBounds_toArray, List.set_cons_zero, List.set_cons_succ, i64_w, i32_w]; rfl
  refine kpure (i := 2) (N := (some 8)) (v := ?_) (a' := ?_) #[true, true, true, false, false, false, false, false, false, false, false, false, false, false, false] rfl rfl (by kernel_rfl) (fun _ _ _ h => h) (Or.inl ⟨by rfl, ?_⟩) ?_ ?_  -- 2 nilCheck (tmp 7)
  rotate_left
  · intro w'; go_simp; with_reducible rfl
  rotate_left
  · simp only [Act.put, List.setIfInBounds_toArray, List.set_cons_zero, List.set_cons_succ, i64_w, i32_w]; rfl
  refine ktake (i := 3) (N := (some 9)) (v := ?_) (a' := ?_) #[true, true, true, true, false, false, false, false, false, false, false, false, false, false, false] rfl rfl (by kernel_rfl) (fun _ _ _ h => h) (Or.inl ⟨by rfl, fun w1 hg => ?_⟩) ?_ ?_  -- 3 load 4 (tmp 8)
  rotate_left
  · refine RunG_value ?_; have c0 := blk_cell (blk_below HBB.out hg) 0; have c1 := blk_cell (blk_below HAA.out hg) 0; go_simp; with_reducible rfl
  rotate_left
  · simp only [Act.put, List.setIfInBounds_toArray, List.set_cons_zero, List.set_cons_succ, i64_w, i32_w]; rfl
  refine kpure (i := 4) (N := (some 10)) (v := ?_) (a' := ?_) #[true, true, true, true, true, false, false, false, false, false, false, false, false, false, false] rfl rfl (by kernel_rfl) (fun _ _ _ h => h) (Or.inl ⟨by rfl, ?_⟩) ?_ ?_  -- 4 move (tmp 9)
  rotate_left
  · intro w'; go_simp; with_reducible rfl
  rotate_left
  · simp only [Act.put, List.setIfInBounds_toArray, List.set_cons_zero, List.set_cons_succ, i64_w, i32_w]; rfl
  refine kpure (i := 5) (N := (some 11)) (v := ?_) (a' := ?_) #[true, true, true, true, true, true, false, false, false, false, false, false, false, false, false] rfl rfl (by kernel_rfl) (fun _ _ _ h => h) (Or.inl ⟨by rfl, ?_⟩) ?_ ?_  -- 5 move (tmp 1)
  rotate_left
  · intro w'; go_simp; with_reducible rfl
  rotate_left
  · simp only [Act.put, List.setIfInBounds_toArray, List.set_cons_zero, List.set_cons_succ, i64_w, i32_w]; rfl
  refine kpure (i := 6) (N := (some 12)) (v := ?_) (a' := ?_) #[true, true, true, true, true, true, true, false, false, false, false, false, false, false, false] rfl rfl (by kernel_rfl) (fun _ _ _ h => h) (Or.inl ⟨by rfl, ?_⟩) ?_ ?_  -- 6 binOp Bineql 23 (tmp 11) (const (int i64 0)) 23
  rotate_left
  · intro w'; go_simp; with_reducible rfl
  rotate_left
  · simp only [Act.put, List.setIfInBounds_toArray, List.set_cons_zero, List.set_cons_succ, i64_w, i32_w]; rfl
  refine kpure (i := 7) (N := (some 13)) (v := ?_) (a' := ?_) #[true, true, true, true, true, true, true, true, false, false, false, false, false, false, false] rfl rfl (by kernel_rfl) (fun _ _ _ h => h) (Or.inl ⟨by rfl, ?_⟩) ?_ ?_  -- 7 pick (tmp 10) (tmp 12) (const (bool false))
  rotate_left
  · intro w'; go_simp; with_reducible rfl
  rotate_left
  · simp only [Act.put, List.setIfInBounds_toArray, List.set_cons_zero, List.set_cons_succ, i64_w, i32_w]; rfl
  refine kpure (i := 8) (N := (some 14)) (v := ?_) (a' := ?_) #[true, true, true, true, true, true, true, true, true, false, false, false, false, false, false] rfl rfl (by kernel_rfl) (fun _ _ _ h => h) (Or.inl ⟨by rfl, ?_⟩) ?_ ?_  -- 8 move (tmp 13)
  rotate_left
  · intro w'; go_simp; with_reducible rfl
  rotate_left
  · simp only [Act.put, List.setIfInBounds_toArray, List.set_cons_zero, List.set_cons_succ, i64_w, i32_w]; rfl
  refine kpure (i := 9) (N := (some 15)) (v := ?_) (a' := ?_) #[true, true, true, true, true, true, true, true, true, true, false, false, false, false, false] rfl rfl (by kernel_rfl) (fun _ _ _ h => h) (Or.inl ⟨by rfl, ?_⟩) ?_ ?_  -- 9 move (tmp 0)
  rotate_left
  · intro w'; go_simp; with_reducible rfl
  rotate_left
  · simp only [Act.put, List.setIfInBounds_toArray, List.set_cons_zero, List.set_cons_succ, i64_w, i32_w]; rfl
  refine kpure (i := 10) (N := (some 16)) (v := ?_) (a' := ?_) #[true, true, true, true, true, true, true, true, true, true, true, false, false, false, false] rfl rfl (by kernel_rfl) (fun _ _ _ h => h) (Or.inl ⟨by rfl, ?_⟩) ?_ ?_  -- 10 call { callee := builtin Builtin.len, args := #[tmp 15], argTypes := #[9] }
  rotate_left
  · intro w'; go_simp; with_reducible rfl
  rotate_left
  · simp only [Act.put, List.setIfInBounds_toArray, List.set_cons_zero, List.set_cons_succ, i64_w, i32_w]; rfl
  refine kpure (i := 11) (N := (some 17)) (v := ?_) (a' := ?_) #[true, true, true, true, true, true, true, true, true, true, true, true, false, false, false] rfl rfl (by kernel_rfl) (fun _ _ _ h => h) (Or.inl ⟨by rfl, ?_⟩) ?_ ?_  -- 11 binOp Bineql 3 (tmp 16) (const (int i64 32)) 3
  rotate_left
  · intro w'; go_simp; with_reducible rfl
  rotate_left
  · simp only [Act.put, List.setIfInBounds_toArray, List.set_cons_zero, List.set_cons_succ, i64_w, i32_w]; rfl
  refine kpure (i := 12) (N := (some 18)) (v := ?_) (a' := ?_) #[true, true, true, true, true, true, true, true, true, true, true, true, true, false, false] rfl rfl (by kernel_rfl) (fun _ _ _ h => h) (Or.inl ⟨by rfl, ?_⟩) ?_ ?_  -- 12 pick (tmp 14) (tmp 17) (const (bool false))
  rotate_left
  · intro w'; go_simp; with_reducible rfl
  rotate_left
  · simp only [Act.put, List.setIfInBounds_toArray, List.set_cons_zero, List.set_cons_succ, i64_w, i32_w]; rfl
  refine kpure (i := 13) (N := (some 19)) (v := ?_) (a' := ?_) #[true, true, true, true, true, true, true, true, true, true, true, true, true, true, false] rfl rfl (by kernel_rfl) (fun _ _ _ h => h) (Or.inl ⟨by rfl, ?_⟩) ?_ ?_  -- 13 nilCheck (tmp 6)
  rotate_left
  · intro w'; go_simp; with_reducible rfl
  rotate_left
  · simp only [Act.put, List.setIfInBounds_toArray, List.set_cons_zero, List.set_cons_succ, i64_w, i32_w]; rfl
  refine kone (i := 14) (N := none) #[true, true, true, true, true, true, true, true, true, true, true, true, true, true, true] rfl rfl (by kernel_rfl) (fun w1 hg K hK => ?_)  -- 14 store 4 (tmp 19) (tmp 18)
  rw [if_pos (by rfl)]
  have c0 := blk_cell (blk_below HBB.out hg) 0
  have c1 := blk_cell (blk_below HAA.out hg) 0
  have f1 := blk_frozen (blk_below HAA.out hg) 0
  go_simp
  refine hK _ _ (fun h => absurd (by decide) h) ?_
  have HD := Aside0.mk (gr_then hg (setCell_same (blk_below HAA.out hg)))
  clear c0 c1 f1 hg K hK
  revert HD
  generalize w1.setCell _ _ = wb
  intro HD
  refine kdone (by kernel_rfl) (fun w1 hg => ?_)
  have HD2 := Aside0.mk (gr_then HD.out hg)
  clear HD hg
  go_wp2
  go_ret
  exact ⟨rfl, HD2.out⟩
/-- the closure that 'told' gives -/
structure GivesF (ga : Nat) (w : World) (e : Ending) (w' : World) : Prop where
  out : ∃ gb, e = .returned (.func (.func 67) #[] #[.pointer (some ⟨gb, 0, none⟩)]) ∧ w'.heap[gb]? = some (.cells #[.pointer (some ⟨ga, 0, none⟩)] 39 (0, 0)) ∧ Below w.heap.size w w'
set_option maxHeartbeats 1000000 in
theorem told_any (ga : Nat) (w : World) : Calls Try.prog 26 #[.pointer (some ⟨ga, 0, none⟩)] w (GivesF ga w) := by
  go_enter Try.func26, Try.ntmps26
  go_wp2
  go_ret
  exact ⟨_, rfl, heap_alloc_new _ _, below_alloc (Below.refl _ _) _⟩
end Go.Proofs.Ytdmpnogjpgoaaaa

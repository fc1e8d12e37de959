import Derived.Test.YtdmpnogjpgoaaaaLimbY2
set_option linter.unusedSimpArgs false
namespace Go.Proofs.Ytdmpnogjpgoaaaa
open Go.RowKit Go.Proofs.YtdmpnogjpgoaaaaW.PrintWords Go.Proofs.YtdmpnogjpgoaaaaW.PrintLast Go.Proofs.YtdmpnogjpgoaaaaW.PrintMore
theorem refSized2 (x y : ByteArray) (w : World) (g : Nat) (h : w.heap[g]? = some (.cells #[.string x, .string y] 9 (0, 0))) (b : Bool) (hb : [x, y].all (fun x => x.size == 32) = b) :
    Calls Try.prog 22 #[.slice (some ⟨g, 0, none⟩) 2 2] w fun e w' => e = .returned (.bool b) ∧ Below w.heap.size w w' := hb ▸ refSized [x, y] (by simp) w g h
theorem sz_t {x : ByteArray} (h : x.size = 32) : ((x.size : Int) == 32) = true := by rw [h]; rfl
theorem sz_f {x : ByteArray} (h : x.size ≠ 32) : ((x.size : Int) == 32) = false := by rw [beq_eq_false_iff_ne]; omega
theorem leV_16 (s : ByteArray) (h : s.size = 32) : leV s < 65536 ^ 16 := by have := leV_lt s h; exact this
theorem modP_16 (x : Nat) : x % P25 < 65536 ^ 16 := modP_lt x
theorem modP_P (x : Nat) : x % P25 < P25 := Nat.mod_lt _ (by have := P25_pos; omega)
attribute [local irreducible] Calls
set_option maxHeartbeats 4000000 in
set_option maxRecDepth 100000 in
theorem LimbTells_walk (a b : ByteArray) (W : World) : Calls Try.prog 4 #[.string a, .string b] W fun e W' => e = .returned (.bool true) ∧ Below W.heap.size W W' := by
  by_cases hx : (cutN a 34).size = 32 <;> by_cases hy : (cutN b 34).size = 32
  · skip
    go_enter Try.func4, Try.ntmps4
    go_wp2_with fail
    refine (lawCut a _).mono ?_
    rintro e w1 ⟨rfl, hb⟩
    have HB := Aside0.mk hb
    clear hb
    go_wp2_with fail
    refine (lawCut b _).mono ?_
    rintro e w1 ⟨rfl, hb⟩
    replace HB := Aside0.mk (below_step HB.out hb)
    clear hb
    generalize cutN a 34 = x at *
    generalize cutN b 34 = y at *
    have tx := sz_t hx
    have HX := Aside0.mk hx
    clear hx
    have HY := Aside0.mk hy
    clear hy
    go_wp2_with fail
    refine (Norm_any x _ HX.out).mono ?_
    rintro e w1 ⟨rfl, hb⟩
    replace HB := Aside0.mk (below_step HB.out hb)
    clear hb
    go_wp2_with fail
    refine (Add_any x y _ ⟨HX.out, HY.out⟩).mono ?_
    rintro e w1 ⟨rfl, hb⟩
    replace HB := Aside0.mk (below_step HB.out hb)
    clear hb
    go_wp2_with fail
    refine (Sub_any x y _ ⟨HX.out, HY.out⟩).mono ?_
    rintro e w1 ⟨rfl, hb⟩
    replace HB := Aside0.mk (below_step HB.out hb)
    clear hb
    go_wp2_with fail
    refine (Mul_any x y _ ⟨HX.out, HY.out⟩).mono ?_
    rintro e w1 ⟨rfl, hb⟩
    replace HB := Aside0.mk (below_step HB.out hb)
    clear hb
    go_wp2_with fail
    refine (refDigits x HX.out _).mono ?_
    rintro e w1 ⟨⟨u1, rfl, D1, hb⟩⟩
    replace HB := Aside0.mk (below_step HB.out hb)
    clear hb
    go_wp2_with fail
    refine (refLeft D1 (leV_16 x HX.out)).mono ?_
    rintro e w1 ⟨⟨u2, rfl, D2, hb⟩⟩
    replace HB := Aside0.mk (below_step HB.out hb)
    clear hb
    go_wp2_with fail
    refine (refText D2).mono ?_
    rintro e w1 ⟨rfl, hb⟩
    replace HB := Aside0.mk (below_step HB.out hb)
    clear hb
    go_wp2_with fail
    refine (alive01 _).mono ?_
    rintro e w1 ⟨rfl, hb⟩
    replace HB := Aside0.mk (below_step HB.out hb)
    clear hb
    go_wp2_with fail
    refine (refSized2 x y _ _ (heap_alloc_new _ _) true (by simp [HX.out, HY.out])).mono ?_
    rintro e w1 ⟨rfl, hb⟩
    replace HB := Aside0.mk (below_step (below_alloc HB.out _) hb)
    clear hb
    clear D1 D2
    go_wp2_with fail
    refine (refDigits x HX.out _).mono ?_
    rintro e w1 ⟨⟨u3, rfl, D3, hb⟩⟩
    replace HB := Aside0.mk (below_step HB.out hb)
    clear hb
    go_wp2_with fail
    refine (refDigits y HY.out _).mono ?_
    rintro e w1 ⟨⟨u4, rfl, D4, hb⟩⟩
    replace HB := Aside0.mk (below_step HB.out hb)
    replace D3 := D3.up hb
    clear hb
    go_wp2_with fail
    refine (refAdd D3 D4 (leV_16 x HX.out) (leV_16 y HY.out)).mono ?_
    rintro e w1 ⟨⟨u5, rfl, D5, hb⟩⟩
    replace HB := Aside0.mk (below_step HB.out hb)
    replace D3 := D3.up hb
    replace D4 := D4.up hb
    clear hb
    go_wp2_with fail
    refine (refText D5).mono ?_
    rintro e w1 ⟨rfl, hb⟩
    replace HB := Aside0.mk (below_step HB.out hb)
    replace D3 := D3.up hb
    replace D4 := D4.up hb
    clear hb
    go_wp2_with fail
    refine (refLeft D3 (leV_16 x HX.out)).mono ?_
    rintro e w1 ⟨⟨u6, rfl, D6, hb⟩⟩
    replace HB := Aside0.mk (below_step HB.out hb)
    replace D3 := D3.up hb
    replace D4 := D4.up hb
    clear hb
    go_wp2_with fail
    refine (refLeft D4 (leV_16 y HY.out)).mono ?_
    rintro e w1 ⟨⟨u7, rfl, D7, hb⟩⟩
    replace HB := Aside0.mk (below_step HB.out hb)
    replace D3 := D3.up hb
    replace D4 := D4.up hb
    replace D6 := D6.up hb
    clear hb
    go_wp2_with fail
    refine (refSub D6 D7 (modP_16 _) (modP_P _)).mono ?_
    rintro e w1 ⟨⟨u8, rfl, D8, hb⟩⟩
    replace HB := Aside0.mk (below_step HB.out hb)
    replace D3 := D3.up hb
    replace D4 := D4.up hb
    clear hb
    go_wp2_with fail
    refine (refText D8).mono ?_
    rintro e w1 ⟨rfl, hb⟩
    replace HB := Aside0.mk (below_step HB.out hb)
    replace D3 := D3.up hb
    replace D4 := D4.up hb
    clear hb
    go_wp2_with fail
    refine (refMul D3 D4 (leV_16 x HX.out) (leV_16 y HY.out)).mono ?_
    rintro e w1 ⟨⟨u9, rfl, D9, hb⟩⟩
    replace HB := Aside0.mk (below_step HB.out hb)
    clear hb
    go_wp2_with fail
    refine (refText D9).mono ?_
    rintro e w1 ⟨rfl, hb⟩
    replace HB := Aside0.mk (below_step HB.out hb)
    clear hb
    go_wp2
    go_ret
    exact ⟨rfl, HB.out⟩
  · skip
    go_enter Try.func4, Try.ntmps4
    go_wp2_with fail
    refine (lawCut a _).mono ?_
    rintro e w1 ⟨rfl, hb⟩
    have HB := Aside0.mk hb
    clear hb
    go_wp2_with fail
    refine (lawCut b _).mono ?_
    rintro e w1 ⟨rfl, hb⟩
    replace HB := Aside0.mk (below_step HB.out hb)
    clear hb
    generalize cutN a 34 = x at *
    generalize cutN b 34 = y at *
    have tx := sz_t hx
    have HX := Aside0.mk hx
    clear hx
    have HY := Aside0.mk hy
    clear hy
    go_wp2_with fail
    refine (Norm_any x _ HX.out).mono ?_
    rintro e w1 ⟨rfl, hb⟩
    replace HB := Aside0.mk (below_step HB.out hb)
    clear hb
    go_wp2_with fail
    refine (Add_bad x y _ (fun h => HY.out h.2)).mono ?_
    rintro e w1 ⟨rfl, hb⟩
    replace HB := Aside0.mk (below_step HB.out hb)
    clear hb
    go_wp2_with fail
    refine (Sub_bad x y _ (fun h => HY.out h.2)).mono ?_
    rintro e w1 ⟨rfl, hb⟩
    replace HB := Aside0.mk (below_step HB.out hb)
    clear hb
    go_wp2_with fail
    refine (Mul_bad x y _ (fun h => HY.out h.2)).mono ?_
    rintro e w1 ⟨rfl, hb⟩
    replace HB := Aside0.mk (below_step HB.out hb)
    clear hb
    go_wp2_with fail
    refine (refDigits x HX.out _).mono ?_
    rintro e w1 ⟨⟨u1, rfl, D1, hb⟩⟩
    replace HB := Aside0.mk (below_step HB.out hb)
    clear hb
    go_wp2_with fail
    refine (refLeft D1 (leV_16 x HX.out)).mono ?_
    rintro e w1 ⟨⟨u2, rfl, D2, hb⟩⟩
    replace HB := Aside0.mk (below_step HB.out hb)
    clear hb
    go_wp2_with fail
    refine (refText D2).mono ?_
    rintro e w1 ⟨rfl, hb⟩
    replace HB := Aside0.mk (below_step HB.out hb)
    clear hb
    go_wp2_with fail
    refine (alive01 _).mono ?_
    rintro e w1 ⟨rfl, hb⟩
    replace HB := Aside0.mk (below_step HB.out hb)
    clear hb
    go_wp2_with fail
    refine (refSized2 x y _ _ (heap_alloc_new _ _) false (by simp [HX.out, HY.out])).mono ?_
    rintro e w1 ⟨rfl, hb⟩
    replace HB := Aside0.mk (below_step (below_alloc HB.out _) hb)
    clear hb
    go_wp2
    go_ret
    refine ⟨congrArg (fun b => Ending.returned (Value.bool b)) (a₁ := (ByteArray.mk #[] ++ ByteArray.mk #[] ++ ByteArray.mk #[]).toList.isEmpty) (a₂ := true) ?_, HB.out⟩
    decide +kernel
  all_goals
    go_enter Try.func4, Try.ntmps4
    go_wp2_with fail
    refine (lawCut a _).mono ?_
    rintro e w1 ⟨rfl, hb⟩
    have HB := Aside0.mk hb
    clear hb
    go_wp2_with fail
    refine (lawCut b _).mono ?_
    rintro e w1 ⟨rfl, hb⟩
    replace HB := Aside0.mk (below_step HB.out hb)
    clear hb
    generalize cutN a 34 = x at *
    generalize cutN b 34 = y at *
    have tx := sz_f hx
    have HX := Aside0.mk hx
    clear hx hy
    go_wp2_with fail
    refine (Norm_bad x _ HX.out).mono ?_
    rintro e w1 ⟨rfl, hb⟩
    replace HB := Aside0.mk (below_step HB.out hb)
    clear hb
    go_wp2_with fail
    refine (Add_bad x y _ (fun h => HX.out h.1)).mono ?_
    rintro e w1 ⟨rfl, hb⟩
    replace HB := Aside0.mk (below_step HB.out hb)
    clear hb
    go_wp2_with fail
    refine (Sub_bad x y _ (fun h => HX.out h.1)).mono ?_
    rintro e w1 ⟨rfl, hb⟩
    replace HB := Aside0.mk (below_step HB.out hb)
    clear hb
    go_wp2_with fail
    refine (Mul_bad x y _ (fun h => HX.out h.1)).mono ?_
    rintro e w1 ⟨rfl, hb⟩
    replace HB := Aside0.mk (below_step HB.out hb)
    clear hb
    go_wp2_with fail
    refine (alive01 _).mono ?_
    rintro e w1 ⟨rfl, hb⟩
    replace HB := Aside0.mk (below_step HB.out hb)
    clear hb
    go_wp2_with fail
    refine (refSized2 x y _ _ (heap_alloc_new _ _) false (by simp [HX.out])).mono ?_
    rintro e w1 ⟨rfl, hb⟩
    replace HB := Aside0.mk (below_step (below_alloc HB.out _) hb)
    clear hb
    go_wp2
    go_ret
    refine ⟨congrArg (fun b => Ending.returned (Value.bool b)) (a₁ := (ByteArray.mk #[] ++ ByteArray.mk #[] ++ ByteArray.mk #[]).toList.isEmpty) (a₂ := true) ?_, HB.out⟩
    decide +kernel
end Go.Proofs.Ytdmpnogjpgoaaaa

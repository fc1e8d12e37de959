import Derived.Test.YtdmpnogjpgoaaaaLimbI1
set_option linter.unusedSimpArgs false
namespace Go.Proofs.Ytdmpnogjpgoaaaa
open Go.RowKit Go.Proofs.YtdmpnogjpgoaaaaW.PrintWords Go.Proofs.YtdmpnogjpgoaaaaW.PrintLast Go.Proofs.YtdmpnogjpgoaaaaW.PrintMore
theorem sz_nf {x : ByteArray} (h : x.size = 32) : ((x.size : Int) != 32) = false := by rw [h]; rfl
theorem sz_nt {x : ByteArray} (h : x.size ≠ 32) : ((x.size : Int) != 32) = true := by rw [bne_iff_ne]; omega
attribute [local irreducible] Calls
set_option maxHeartbeats 4000000 in
set_option maxRecDepth 100000 in
theorem LimbInverses_walk (a : ByteArray) (W : World) : Calls Try.prog 3 #[.string a] W fun e W' => e = .returned (.bool true) ∧ Below W.heap.size W W' := by
  by_cases hx : (cutN a 34).size = 32
  · skip
    go_enter Try.func3, Try.ntmps3
    go_wp2_with fail
    refine (lawCut a _).mono ?_
    rintro e w1 ⟨rfl, hb⟩
    have HB := Aside0.mk hb
    clear hb
    generalize cutN a 34 = x at *
    have tx := sz_nf hx
    have HX := Aside0.mk hx
    clear hx
    go_wp2_with fail
    refine (Inv_any x _ HX.out).mono ?_
    rintro e w1 ⟨rfl, hb⟩
    replace HB := Aside0.mk (below_step HB.out hb)
    clear hb
    go_wp2_with fail
    refine (alive01 _).mono ?_
    rintro e w1 ⟨rfl, hb⟩
    replace HB := Aside0.mk (below_step HB.out hb)
    clear hb
    go_wp2_with fail
    refine (refDigits x HX.out _).mono ?_
    rintro e w1 ⟨⟨u1, rfl, D1, hb⟩⟩
    replace HB := Aside0.mk (below_step HB.out hb)
    clear hb
    go_wp2_with fail
    refine (refLeft D1 (leV_16 x HX.out)).mono ?_
    rintro e w1 ⟨⟨u2, rfl, D2, hb⟩⟩
    replace HB := Aside0.mk (below_step HB.out hb)
    clear hb
    go_wp2_with fail
    refine (refInv D2 (modP_16 _)).mono ?_
    rintro e w1 ⟨⟨u3, rfl, D3, hb⟩⟩
    replace HB := Aside0.mk (below_step HB.out hb)
    clear hb
    go_wp2_with fail
    refine (refText D3).mono ?_
    rintro e w1 ⟨rfl, hb⟩
    replace HB := Aside0.mk (below_step HB.out hb)
    clear hb
    go_wp2
    go_ret
    exact ⟨rfl, HB.out⟩
  · skip
    go_enter Try.func3, Try.ntmps3
    go_wp2_with fail
    refine (lawCut a _).mono ?_
    rintro e w1 ⟨rfl, hb⟩
    have HB := Aside0.mk hb
    clear hb
    generalize cutN a 34 = x at *
    have tx := sz_nt hx
    have HX := Aside0.mk hx
    clear hx
    go_wp2_with fail
    refine (Inv_bad x _ HX.out).mono ?_
    rintro e w1 ⟨rfl, hb⟩
    replace HB := Aside0.mk (below_step HB.out hb)
    clear hb
    go_wp2_with fail
    refine (alive01 _).mono ?_
    rintro e w1 ⟨rfl, hb⟩
    replace HB := Aside0.mk (below_step HB.out hb)
    clear hb
    go_wp2
    go_ret
    exact ⟨rfl, HB.out⟩
end Go.Proofs.Ytdmpnogjpgoaaaa

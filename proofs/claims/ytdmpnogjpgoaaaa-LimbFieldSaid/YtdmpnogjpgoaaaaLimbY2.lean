import Derived.Test.YtdmpnogjpgoaaaaLimbY1
set_option linter.unusedSimpArgs false
namespace Go.Proofs.Ytdmpnogjpgoaaaa
open Go.RowKit Go.Proofs.YtdmpnogjpgoaaaaW.PrintWords Go.Proofs.YtdmpnogjpgoaaaaW.PrintLast Go.Proofs.YtdmpnogjpgoaaaaW.PrintMore
attribute [local irreducible] Calls
set_option maxHeartbeats 1000000 in
set_option maxRecDepth 100000 in
theorem alive01 (w : World) : Calls Try.prog 13 #[] w fun e w' => e = .returned (.bool true) ∧ Below w.heap.size w w' := by
  have s6 : ∀ W : World, Calls Try.prog 27 #[.int .u8 6] W fun e w' => e = .returned (.string (textV 6)) ∧ Below W.heap.size W w' := fun W => small_any 6 (by omega) W
  have s7 : ∀ W : World, Calls Try.prog 27 #[.int .u8 7] W fun e w' => e = .returned (.string (textV 7)) ∧ Below W.heap.size W w' := fun W => small_any 7 (by omega) W
  have s42 : ∀ W : World, Calls Try.prog 27 #[.int .u8 42] W fun e w' => e = .returned (.string (textV 42)) ∧ Below W.heap.size W w' := fun W => small_any 42 (by omega) W
  have hm := fun W => Mul_any (textV 6) (textV 7) W ⟨textV_size 6, textV_size 7⟩
  rw [leV_textV, leV_textV, show 6 % 256 ^ 32 * (7 % 256 ^ 32) % P25 = 42 by decide +kernel] at hm
  have t1 : (((textV 42).size : Int) == 32) = true := by rw [textV_size]; rfl
  have S6 := Lib.hid s6
  have S7 := Lib.hid s7
  have S42 := Lib.hid s42
  have HM := Lib.hid hm
  have HB := Aside0.mk (Below.refl w.heap.size w)
  clear s6 s7 s42 hm
  generalize textV 6 = x6 at *
  generalize textV 7 = x7 at *
  generalize textV 42 = x42 at *
  go_enter Try.func13, Try.ntmps13
  go_wp2_with (first | (go_at_call_of 27 (Value.int IntKind.u8 6); refine (S6.out _).mono ?_; rintro e w1 ⟨rfl, hb⟩; replace HB := Aside0.mk (below_step HB.out hb); clear hb) | (go_at_call_of 27 (Value.int IntKind.u8 7); refine (S7.out _).mono ?_; rintro e w1 ⟨rfl, hb⟩; replace HB := Aside0.mk (below_step HB.out hb); clear hb) | (go_at_call_of 27 (Value.int IntKind.u8 42); refine (S42.out _).mono ?_; rintro e w1 ⟨rfl, hb⟩; replace HB := Aside0.mk (below_step HB.out hb); clear hb) | (go_at_call 21; refine (HM.out _).mono ?_; rintro e w1 ⟨rfl, hb⟩; replace HB := Aside0.mk (below_step HB.out hb); clear hb))
  go_ret
  exact ⟨rfl, HB.out⟩
end Go.Proofs.Ytdmpnogjpgoaaaa

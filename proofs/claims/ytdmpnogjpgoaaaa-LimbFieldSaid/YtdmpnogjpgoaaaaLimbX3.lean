import Derived.Test.YtdmpnogjpgoaaaaLimbX2
import Derived.Test.YtdmpnogjpgoaaaaReg
import Derived.Deep.RegionWith


set_option linter.unusedSimpArgs false
namespace Go.Proofs.Ytdmpnogjpgoaaaa
open Go.RowKit Go.Proofs.YtdmpnogjpgoaaaaW.PrintWords Go.Proofs.YtdmpnogjpgoaaaaW.PrintLast Go.Proofs.YtdmpnogjpgoaaaaW.PrintMore
attribute [local irreducible] Calls
section
variable (a b : ByteArray) (w : World)
set_option maxHeartbeats 1000000 in
set_option maxRecDepth 100000 in
theorem Add_any (hab : a.size = 32 ∧ b.size = 32) : Calls Try.prog 19 #[.string a, .string b] w fun e w' => e = .returned (.tuple #[.string (textV ((leV a + leV b) % P25)), .int .i64 0]) ∧ Below w.heap.size w w' := by
  have hm := may2_any a b
  rw [if_pos hab] at hm
  have HM := Lib.hid hm
  have HA : Aside0 (a.size = 32) := ⟨hab.1⟩
  have hl := Aside0.mk (leV_lt4 a HA.out)
  have HA2 : Aside0 (b.size = 32) := ⟨hab.2⟩
  have hl2 := Aside0.mk (leV_lt4 b HA2.out)
  clear hm hab
  have hu67 := Try.underlying67
  go_enter Try.func19, Try.ntmps19
  have hcy := cy_4 (leV a) (leV b) hl.out hl2.out
  have hcl : cy (leV a) (leV b) 4 < 18446744073709551616 := by have := cy_le (leV a) (leV b) 4; omega
  have hLft := fun W => left_any ((leV a + leV b) % MM ^ 4) (cy (leV a) (leV b) 4) W (Nat.mod_lt _ (MMpos 4)) hcl
  rw [hcy, Nat.mod_add_div, ← hcy, aggN_mod] at hLft
  have HLft := Lib.hid hLft
  clear hLft hcy hcl
  go_wp2_with (first | (go_at_call 54; refine (HM.out _ _ (heap_alloc_new _ _)).mono ?_; rintro e w1 ⟨rfl, hb⟩; have HB := Aside0.mk (below_step (below_alloc (Below.refl _ _) _) hb); clear hb) | (go_at_call_of 55 (Value.string a); refine (of_any a HA.out _).mono ?_; rintro e w1 ⟨rfl, hb⟩; replace HB := Aside0.mk (below_step HB.out hb); clear hb) | (go_at_call_of 55 (Value.string b); refine (of_any b HA2.out _).mono ?_; rintro e w1 ⟨rfl, hb⟩; replace HB := Aside0.mk (below_step HB.out hb); clear hb) | (go_at_call 62; refine (plus_any (leV a) (leV b) _).mono ?_; rintro e w1 ⟨rfl, hb⟩; replace HB := Aside0.mk (below_step HB.out hb); clear hb; unfold aggN) | (go_at_call 56; refine (HLft.out _).mono ?_; rintro e w1 ⟨rfl, hb⟩; replace HB := Aside0.mk (below_step (below_alloc HB.out _) hb); clear hb) | (go_at_call 58; refine (text_any ((leV a + leV b) % P25) _).mono ?_; rintro e w1 ⟨rfl, hb⟩; replace HB := Aside0.mk (below_step HB.out hb); clear hb))
  go_ret2
  exact ⟨rfl, HB.out⟩
set_option maxHeartbeats 1000000 in
theorem Add_bad (hab : ¬ (a.size = 32 ∧ b.size = 32)) : Calls Try.prog 19 #[.string a, .string b] w fun e w' => e = .returned (.tuple #[.string ⟨#[]⟩, .int .i64 2]) ∧ Below w.heap.size w w' := by
  have hm := may2_any a b
  rw [if_neg hab] at hm
  have HM := Lib.hid hm
  clear hm hab
  go_enter Try.func19, Try.ntmps19
  go_wp2_with (go_at_call 54; refine (HM.out _ _ (heap_alloc_new _ _)).mono ?_; rintro e w1 ⟨rfl, hb⟩; have HB := Aside0.mk (below_step (below_alloc (Below.refl _ _) _) hb); clear hb)
  go_ret2
  exact ⟨rfl, HB.out⟩
end
end Go.Proofs.Ytdmpnogjpgoaaaa

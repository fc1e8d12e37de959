import Derived.Test.YtdmpnogjpgoaaaaLimbX1
import Derived.Deep.RegionWith
set_option linter.unusedSimpArgs false
namespace Go.Proofs.Ytdmpnogjpgoaaaa
open Go.RowKit Go.Proofs.YtdmpnogjpgoaaaaW.PrintWords Go.Proofs.YtdmpnogjpgoaaaaW.PrintLast Go.Proofs.YtdmpnogjpgoaaaaW.PrintMore
theorem ret_str {s t : ByteArray} {e : Int} (h : s = t) : Ending.returned (.tuple #[.string s, .int .i64 e]) = .returned (.tuple #[.string t, .int .i64 e]) := by rw [h]
theorem leV_lt4 (s : ByteArray) (h : s.size = 32) : leV s < MM ^ 4 := by have := leV_lt s h; exact this
theorem modP_lt (x : Nat) : x % P25 < MM ^ 4 := by have h4 := MM4; have hp := P25_pos; have := Nat.mod_lt x (show 0 < P25 by omega); omega
theorem left0_any (n : Nat) (w : World) (hn : n < MM ^ 4) : Calls Try.prog 56 #[.agg (aggN n), .int .u64 0] w fun e w' => e = .returned (.agg (aggN (n % P25))) ∧ Below w.heap.size w w' := by
  have := left_any n 0 w hn (by decide)
  rw [Nat.mul_zero, Nat.add_zero] at this
  exact this
attribute [local irreducible] Calls
section
variable (a b : ByteArray) (w : World)
set_option maxHeartbeats 1000000 in
set_option maxRecDepth 100000 in
theorem Norm_any (hab : a.size = 32) : Calls Try.prog 18 #[.string a] w fun e w' => e = .returned (.tuple #[.string (textV (leV a % P25)), .int .i64 0]) ∧ Below w.heap.size w w' := by
  have hm := may1_any a
  rw [if_pos hab] at hm
  have HM := Lib.hid hm
  have HA : Aside0 (a.size = 32) := ⟨hab⟩
  have hl := Aside0.mk (leV_lt4 a HA.out)
  clear hm hab
  have hu67 := Try.underlying67
  go_enter Try.func18, Try.ntmps18
  go_wp2_with (first | (go_at_call 54; refine (HM.out _ _ (heap_alloc_new _ _)).mono ?_; rintro e w1 ⟨rfl, hb⟩; have HB := Aside0.mk (below_step (below_alloc (Below.refl _ _) _) hb); clear hb) | (go_at_call 55; refine (of_any a HA.out _).mono ?_; rintro e w1 ⟨rfl, hb⟩; replace HB := Aside0.mk (below_step HB.out hb); clear hb) | (go_at_call 56; refine (left0_any (leV a) _ hl.out).mono ?_; rintro e w1 ⟨rfl, hb⟩; replace HB := Aside0.mk (below_step HB.out hb); clear hb) | (go_at_call 58; refine (text_any (leV a % P25) _).mono ?_; rintro e w1 ⟨rfl, hb⟩; replace HB := Aside0.mk (below_step HB.out hb); clear hb))
  go_ret2
  exact ⟨rfl, HB.out⟩
set_option maxHeartbeats 1000000 in
theorem Norm_bad (hab : ¬ a.size = 32) : Calls Try.prog 18 #[.string a] w fun e w' => e = .returned (.tuple #[.string ⟨#[]⟩, .int .i64 2]) ∧ Below w.heap.size w w' := by
  have hm := may1_any a
  rw [if_neg hab] at hm
  have HM := Lib.hid hm
  clear hm hab
  go_enter Try.func18, Try.ntmps18
  go_wp2_with (go_at_call 54; refine (HM.out _ _ (heap_alloc_new _ _)).mono ?_; rintro e w1 ⟨rfl, hb⟩; have HB := Aside0.mk (below_step (below_alloc (Below.refl _ _) _) hb); clear hb)
  go_ret2
  exact ⟨rfl, HB.out⟩
set_option maxHeartbeats 1000000 in
set_option maxRecDepth 100000 in
theorem Inv_any (hab : a.size = 32) : Calls Try.prog 12 #[.string a] w fun e w' => e = .returned (.tuple #[.string (textV ((leV a % P25) ^ (P25 - 2) % P25)), .int .i64 0]) ∧ Below w.heap.size w w' := by
  have hm := may1_any a
  rw [if_pos hab] at hm
  have HM := Lib.hid hm
  have HA : Aside0 (a.size = 32) := ⟨hab⟩
  have hl := Aside0.mk (leV_lt4 a HA.out)
  clear hm hab
  have hu67 := Try.underlying67
  go_enter Try.func12, Try.ntmps12
  go_wp2_with (first | (go_at_call 54; refine (HM.out _ _ (heap_alloc_new _ _)).mono ?_; rintro e w1 ⟨rfl, hb⟩; have HB := Aside0.mk (below_step (below_alloc (Below.refl _ _) _) hb); clear hb) | (go_at_call 55; refine (of_any a HA.out _).mono ?_; rintro e w1 ⟨rfl, hb⟩; replace HB := Aside0.mk (below_step HB.out hb); clear hb) | (go_at_call 56; refine (left0_any (leV a) _ hl.out).mono ?_; rintro e w1 ⟨rfl, hb⟩; replace HB := Aside0.mk (below_step HB.out hb); clear hb) | (go_at_call 57; refine (inverse_any (leV a % P25) _ (modP_lt _)).mono ?_; rintro e w1 ⟨rfl, hb⟩; replace HB := Aside0.mk (below_step HB.out hb); clear hb) | (go_at_call 58; refine (text_any ((leV a % P25) ^ (P25 - 2) % P25) _).mono ?_; rintro e w1 ⟨rfl, hb⟩; replace HB := Aside0.mk (below_step HB.out hb); clear hb))
  go_ret2
  exact ⟨rfl, HB.out⟩
set_option maxHeartbeats 1000000 in
theorem Inv_bad (hab : ¬ a.size = 32) : Calls Try.prog 12 #[.string a] w fun e w' => e = .returned (.tuple #[.string ⟨#[]⟩, .int .i64 2]) ∧ Below w.heap.size w w' := by
  have hm := may1_any a
  rw [if_neg hab] at hm
  have HM := Lib.hid hm
  clear hm hab
  go_enter Try.func12, Try.ntmps12
  go_wp2_with (go_at_call 54; refine (HM.out _ _ (heap_alloc_new _ _)).mono ?_; rintro e w1 ⟨rfl, hb⟩; have HB := Aside0.mk (below_step (below_alloc (Below.refl _ _) _) hb); clear hb)
  go_ret2
  exact ⟨rfl, HB.out⟩
set_option maxHeartbeats 1000000 in
set_option maxRecDepth 100000 in
theorem Mul_any (hab : a.size = 32 ∧ b.size = 32) : Calls Try.prog 21 #[.string a, .string b] w fun e w' => e = .returned (.tuple #[.string (textV (leV a * leV b % P25)), .int .i64 0]) ∧ Below w.heap.size w w' := by
  have hm := may2_any a b
  rw [if_pos hab] at hm
  have HM := Lib.hid hm
  have HA : Aside0 (a.size = 32) := ⟨hab.1⟩
  have hl := Aside0.mk (leV_lt4 a HA.out)
  have HA2 : Aside0 (b.size = 32) := ⟨hab.2⟩
  have hl2 := Aside0.mk (leV_lt4 b HA2.out)
  clear hm hab
  have hu67 := Try.underlying67
  go_enter Try.func21, Try.ntmps21
  go_wp2_with (first | (go_at_call 54; refine (HM.out _ _ (heap_alloc_new _ _)).mono ?_; rintro e w1 ⟨rfl, hb⟩; have HB := Aside0.mk (below_step (below_alloc (Below.refl _ _) _) hb); clear hb) | (go_at_call_of 55 (Value.string a); refine (of_any a HA.out _).mono ?_; rintro e w1 ⟨rfl, hb⟩; replace HB := Aside0.mk (below_step HB.out hb); clear hb) | (go_at_call_of 55 (Value.string b); refine (of_any b HA2.out _).mono ?_; rintro e w1 ⟨rfl, hb⟩; replace HB := Aside0.mk (below_step HB.out hb); clear hb) | (go_at_call 65; refine (times_any (leV a) (leV b) _ hl.out hl2.out).mono ?_; rintro e w1 ⟨rfl, hb⟩; replace HB := Aside0.mk (below_step HB.out hb); clear hb) | (go_at_call 58; refine (text_any (leV a * leV b % P25) _).mono ?_; rintro e w1 ⟨rfl, hb⟩; replace HB := Aside0.mk (below_step HB.out hb); clear hb))
  go_ret2
  exact ⟨rfl, HB.out⟩
set_option maxHeartbeats 1000000 in
theorem Mul_bad (hab : ¬ (a.size = 32 ∧ b.size = 32)) : Calls Try.prog 21 #[.string a, .string b] w fun e w' => e = .returned (.tuple #[.string ⟨#[]⟩, .int .i64 2]) ∧ Below w.heap.size w w' := by
  have hm := may2_any a b
  rw [if_neg hab] at hm
  have HM := Lib.hid hm
  clear hm hab
  go_enter Try.func21, Try.ntmps21
  go_wp2_with (go_at_call 54; refine (HM.out _ _ (heap_alloc_new _ _)).mono ?_; rintro e w1 ⟨rfl, hb⟩; have HB := Aside0.mk (below_step (below_alloc (Below.refl _ _) _) hb); clear hb)
  go_ret2
  exact ⟨rfl, HB.out⟩
end
end Go.Proofs.Ytdmpnogjpgoaaaa

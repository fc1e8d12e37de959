import Derived.Test.YtdmpnogjpgoaaaaMc
import Derived.Deep.RegionWith
set_option linter.unusedSimpArgs false
namespace Go.Proofs.Ytdmpnogjpgoaaaa
open Go.RowKit Go.Proofs.YtdmpnogjpgoaaaaW.PrintWords Go.Proofs.YtdmpnogjpgoaaaaW.PrintLast Go.Proofs.YtdmpnogjpgoaaaaW.PrintMore
theorem C_strs {w : World} {g : Nat} {t : TypeId} {fr : Nat × Nat} (xs : List ByteArray) (hl : xs.length ≤ 9223372036854775807) (h : w.heap[g]? = some (.cells (xs.map Value.string).toArray t fr)) : Kd.C Kd.string w (some ⟨g, 0, none⟩) xs.length xs := by
  refine Kd.C_of_reads (d := ByteArray.empty) ⟨rfl, hl, fun _ => ⟨_, rfl, fun j hj => ?_⟩⟩
  rw [add_plain]
  have : w.cell? ⟨g, j, none⟩ = (xs.map Value.string).toArray[j]? := by simp [World.cell?, h]
  rw [this, List.getElem?_toArray, List.getElem?_map, List.getElem?_eq_getElem hj]
  simp [List.getD_eq_getElem?_getD, List.getElem?_eq_getElem hj]
theorem mayS_l (l : List ByteArray) (hl : l.length ≤ 1000) : ∀ (k i : Nat), i ≤ l.length → l.length - i < k →
    PLimbTells.limb_may.l0 k l l.length i = some (if (l.drop i).all (fun x => x.size == 32) then 0 else 2) := by
  intro k
  induction k with
  | zero => intro i _ h; omega
  | succ k ih =>
    intro i hi hk
    simp only [PLimbTells.limb_may.l0]
    by_cases h : i < l.length
    · have e : rdOf ByteArray.empty l (i : Int) = l[i] := by simp [rdOf, List.getD_eq_getElem?_getD, List.getElem?_eq_getElem h]
      rw [if_pos (by omega), if_pos (by omega), if_pos (by omega), e, List.drop_eq_getElem_cons h, List.all_cons]
      by_cases hs : l[i].size = 32
      · rw [if_pos (by omega), wr (by omega), show (i : Int) + 1 = ((i + 1 : Nat) : Int) by omega, ih (i + 1) (by omega) (by omega)]
        simp [hs]
      · rw [if_neg (by omega)]
        simp [hs]
    · rw [if_neg (by omega), List.drop_eq_nil_of_le (by omega)]; rfl
theorem may_1 (a : ByteArray) : PLimbTells.limb_may.f 2 [a] = some (if a.size = 32 then 0 else 2) := by
  have := mayS_l [a] (by simp) 2 0 (by simp) (by simp)
  unfold PLimbTells.limb_may.f
  rw [show (0 : Int) = ((0 : Nat) : Int) from rfl, this]
  simp
theorem may_2 (a b : ByteArray) : PLimbTells.limb_may.f 3 [a, b] = some (if a.size = 32 ∧ b.size = 32 then 0 else 2) := by
  have := mayS_l [a, b] (by simp) 3 0 (by simp) (by simp)
  unfold PLimbTells.limb_may.f
  rw [show (0 : Int) = ((0 : Nat) : Int) from rfl, this]
  simp
theorem may1_any (a : ByteArray) (w : World) (g : Nat) (h : w.heap[g]? = some (.cells #[.string a] 9 (0, 0))) :
    Calls Try.prog 54 #[.slice (some ⟨g, 0, none⟩) 1 1] w fun e w' => e = .returned (.int .i64 (if a.size = 32 then 0 else 2)) ∧ Below w.heap.size w w' :=
  (PLimbTells.limb_may.calls 2 _ 1 [a] _ w (C_strs [a] (by simp) h) (by simp) (may_1 a)).mono fun _ _ h => ⟨h.1, h.2.below⟩
theorem may2_any (a b : ByteArray) (w : World) (g : Nat) (h : w.heap[g]? = some (.cells #[.string a, .string b] 9 (0, 0))) :
    Calls Try.prog 54 #[.slice (some ⟨g, 0, none⟩) 2 2] w fun e w' => e = .returned (.int .i64 (if a.size = 32 ∧ b.size = 32 then 0 else 2)) ∧ Below w.heap.size w w' :=
  (PLimbTells.limb_may.calls 3 _ 2 [a, b] _ w (C_strs [a, b] (by simp) h) (by simp) (may_2 a b)).mono fun _ _ h => ⟨h.1, h.2.below⟩
end Go.Proofs.Ytdmpnogjpgoaaaa

set_option linter.unusedSimpArgs false
namespace Go.Proofs.Ytdmpnogjpgoaaaa
open Go.RowKit Go.Proofs.YtdmpnogjpgoaaaaW.PrintWords Go.Proofs.YtdmpnogjpgoaaaaW.PrintLast Go.Proofs.YtdmpnogjpgoaaaaW.PrintMore
theorem ret_str {s t : ByteArray} {e : Int} (h : s = t) : Ending.returned (.tuple #[.string s, .int .i64 e]) = .returned (.tuple #[.string t, .int .i64 e]) := by rw [h]
theorem leV_lt4 (s : ByteArray) (h : s.size = 32) : leV s < MM ^ 4 := by have := leV_lt s h; exact this
theorem modP_lt (x : Nat) : x % P25 < MM ^ 4 := by have h4 := MM4; have hp := P25_pos; have := Nat.mod_lt x (show 0 < P25 by omega); omega
theorem left0_any (n : Nat) (w : World) (hn : n < MM ^ 4) : Calls Try.prog 56 #[.agg (aggN n), .int .u64 0] w fun e w' => e = .returned (.agg (aggN (n % P25))) ∧ Below w.heap.size w w' := by
  have := left_any n 0 w hn (by decide)
  rw [Nat.mul_zero, Nat.add_zero] at this
  exact this
attribute [local irreducible] Calls
section
variable (a b : ByteArray) (w : World)
set_option maxHeartbeats 1000000 in
set_option maxRecDepth 100000 in
theorem Norm_any (hab : a.size = 32) : Calls Try.prog 18 #[.string a] w fun e w' => e = .returned (.tuple #[.string (textV (leV a % P25)), .int .i64 0]) ∧ Below w.heap.size w w' := by
  have hm := may1_any a
  rw [if_pos hab] at hm
  have HM := Lib.hid hm
  have HA : Aside0 (a.size = 32) := ⟨hab⟩
  have hl := Aside0.mk (leV_lt4 a HA.out)
  clear hm hab
  have hu67 := Try.underlying67
  go_enter Try.func18, Try.ntmps18
  go_wp2_with (first | (go_at_call 54; refine (HM.out _ _ (heap_alloc_new _ _)).mono ?_; rintro e w1 ⟨rfl, hb⟩; have HB := Aside0.mk (below_step (below_alloc (Below.refl _ _) _) hb); clear hb) | (go_at_call 55; refine (of_any a HA.out _).mono ?_; rintro e w1 ⟨rfl, hb⟩; replace HB := Aside0.mk (below_step HB.out hb); clear hb) | (go_at_call 56; refine (left0_any (leV a) _ hl.out).mono ?_; rintro e w1 ⟨rfl, hb⟩; replace HB := Aside0.mk (below_step HB.out hb); clear hb) | (go_at_call 58; refine (text_any (leV a % P25) _).mono ?_; rintro e w1 ⟨rfl, hb⟩; replace HB := Aside0.mk (below_step HB.out hb); clear hb))
  go_ret2
  exact ⟨rfl, HB.out⟩
set_option maxHeartbeats 1000000 in
theorem Norm_bad (hab : ¬ a.size = 32) : Calls Try.prog 18 #[.string a] w fun e w' => e = .returned (.tuple #[.string ⟨#[]⟩, .int .i64 2]) ∧ Below w.heap.size w w' := by
  have hm := may1_any a
  rw [if_neg hab] at hm
  have HM := Lib.hid hm
  clear hm hab
  go_enter Try.func18, Try.ntmps18
  go_wp2_with (go_at_call 54; refine (HM.out _ _ (heap_alloc_new _ _)).mono ?_; rintro e w1 ⟨rfl, hb⟩; have HB := Aside0.mk (below_step (below_alloc (Below.refl _ _) _) hb); clear hb)
  go_ret2
  exact ⟨rfl, HB.out⟩
set_option maxHeartbeats 1000000 in
set_option maxRecDepth 100000 in
theorem Inv_any (hab : a.size = 32) : Calls Try.prog 12 #[.string a] w fun e w' => e = .returned (.tuple #[.string (textV ((leV a % P25) ^ (P25 - 2) % P25)), .int .i64 0]) ∧ Below w.heap.size w w' := by
  have hm := may1_any a
  rw [if_pos hab] at hm
  have HM := Lib.hid hm
  have HA : Aside0 (a.size = 32) := ⟨hab⟩
  have hl := Aside0.mk (leV_lt4 a HA.out)
  clear hm hab
  have hu67 := Try.underlying67
  go_enter Try.func12, Try.ntmps12
  go_wp2_with (first | (go_at_call 54; refine (HM.out _ _ (heap_alloc_new _ _)).mono ?_; rintro e w1 ⟨rfl, hb⟩; have HB := Aside0.mk (below_step (below_alloc (Below.refl _ _) _) hb); clear hb) | (go_at_call 55; refine (of_any a HA.out _).mono ?_; rintro e w1 ⟨rfl, hb⟩; replace HB := Aside0.mk (below_step HB.out hb); clear hb) | (go_at_call 56; refine (left0_any (leV a) _ hl.out).mono ?_; rintro e w1 ⟨rfl, hb⟩; replace HB := Aside0.mk (below_step HB.out hb); clear hb) | (go_at_call 57; refine (inverse_any (leV a % P25) _ (modP_lt _)).mono ?_; rintro e w1 ⟨rfl, hb⟩; replace HB := Aside0.mk (below_step HB.out hb); clear hb) | (go_at_call 58; refine (text_any ((leV a % P25) ^ (P25 - 2) % P25) _).mono ?_; rintro e w1 ⟨rfl, hb⟩; replace HB := Aside0.mk (below_step HB.out hb); clear hb))
  go_ret2
  exact ⟨rfl, HB.out⟩
set_option maxHeartbeats 1000000 in
theorem Inv_bad (hab : ¬ a.size = 32) : Calls Try.prog 12 #[.string a] w fun e w' => e = .returned (.tuple #[.string ⟨#[]⟩, .int .i64 2]) ∧ Below w.heap.size w w' := by
  have hm := may1_any a
  rw [if_neg hab] at hm
  have HM := Lib.hid hm
  clear hm hab
  go_enter Try.func12, Try.ntmps12
  go_wp2_with (go_at_call 54; refine (HM.out _ _ (heap_alloc_new _ _)).mono ?_; rintro e w1 ⟨rfl, hb⟩; have HB := Aside0.mk (below_step (below_alloc (Below.refl _ _) _) hb); clear hb)
  go_ret2
  exact ⟨rfl, HB.out⟩
set_option maxHeartbeats 1000000 in
set_option maxRecDepth 100000 in
theorem Mul_any (hab : a.size = 32 ∧ b.size = 32) : Calls Try.prog 21 #[.string a, .string b] w fun e w' => e = .returned (.tuple #[.string (textV (leV a * leV b % P25)), .int .i64 0]) ∧ Below w.heap.size w w' := by
  have hm := may2_any a b
  rw [if_pos hab] at hm
  have HM := Lib.hid hm
  have HA : Aside0 (a.size = 32) := ⟨hab.1⟩
  have hl := Aside0.mk (leV_lt4 a HA.out)
  have HA2 : Aside0 (b.size = 32) := ⟨hab.2⟩
  have hl2 := Aside0.mk (leV_lt4 b HA2.out)
  clear hm hab
  have hu67 := Try.underlying67
  go_enter Try.func21, Try.ntmps21
  go_wp2_with (first | (go_at_call 54; refine (HM.out _ _ (heap_alloc_new _ _)).mono ?_; rintro e w1 ⟨rfl, hb⟩; have HB := Aside0.mk (below_step (below_alloc (Below.refl _ _) _) hb); clear hb) | (go_at_call_of 55 (Value.string a); refine (of_any a HA.out _).mono ?_; rintro e w1 ⟨rfl, hb⟩; replace HB := Aside0.mk (below_step HB.out hb); clear hb) | (go_at_call_of 55 (Value.string b); refine (of_any b HA2.out _).mono ?_; rintro e w1 ⟨rfl, hb⟩; replace HB := Aside0.mk (below_step HB.out hb); clear hb) | (go_at_call 65; refine (times_any (leV a) (leV b) _ hl.out hl2.out).mono ?_; rintro e w1 ⟨rfl, hb⟩; replace HB := Aside0.mk (below_step HB.out hb); clear hb) | (go_at_call 58; refine (text_any (leV a * leV b % P25) _).mono ?_; rintro e w1 ⟨rfl, hb⟩; replace HB := Aside0.mk (below_step HB.out hb); clear hb))
  go_ret2
  exact ⟨rfl, HB.out⟩
set_option maxHeartbeats 1000000 in
theorem Mul_bad (hab : ¬ (a.size = 32 ∧ b.size = 32)) : Calls Try.prog 21 #[.string a, .string b] w fun e w' => e = .returned (.tuple #[.string ⟨#[]⟩, .int .i64 2]) ∧ Below w.heap.size w w' := by
  have hm := may2_any a b
  rw [if_neg hab] at hm
  have HM := Lib.hid hm
  clear hm hab
  go_enter Try.func21, Try.ntmps21
  go_wp2_with (go_at_call 54; refine (HM.out _ _ (heap_alloc_new _ _)).mono ?_; rintro e w1 ⟨rfl, hb⟩; have HB := Aside0.mk (below_step (below_alloc (Below.refl _ _) _) hb); clear hb)
  go_ret2
  exact ⟨rfl, HB.out⟩
end
end Go.Proofs.Ytdmpnogjpgoaaaa

set_option linter.unusedSimpArgs false
namespace Go.Proofs.Ytdmpnogjpgoaaaa
open Go.RowKit Go.Proofs.YtdmpnogjpgoaaaaW.PrintWords Go.Proofs.YtdmpnogjpgoaaaaW.PrintLast Go.Proofs.YtdmpnogjpgoaaaaW.PrintMore
attribute [local irreducible] Calls
section
variable (a b : ByteArray) (w : World)
set_option maxHeartbeats 1000000 in
set_option maxRecDepth 100000 in
theorem Add_any (hab : a.size = 32 ∧ b.size = 32) : Calls Try.prog 19 #[.string a, .string b] w fun e w' => e = .returned (.tuple #[.string (textV ((leV a + leV b) % P25)), .int .i64 0]) ∧ Below w.heap.size w w' := by
  have hm := may2_any a b
  rw [if_pos hab] at hm
  have HM := Lib.hid hm
  have HA : Aside0 (a.size = 32) := ⟨hab.1⟩
  have hl := Aside0.mk (leV_lt4 a HA.out)
  have HA2 : Aside0 (b.size = 32) := ⟨hab.2⟩
  have hl2 := Aside0.mk (leV_lt4 b HA2.out)
  clear hm hab
  have hu67 := Try.underlying67
  go_enter Try.func19, Try.ntmps19
  have hcy := cy_4 (leV a) (leV b) hl.out hl2.out
  have hcl : cy (leV a) (leV b) 4 < 18446744073709551616 := by have := cy_le (leV a) (leV b) 4; omega
  have hLft := fun W => left_any ((leV a + leV b) % MM ^ 4) (cy (leV a) (leV b) 4) W (Nat.mod_lt _ (MMpos 4)) hcl
  rw [hcy, Nat.mod_add_div, ← hcy, aggN_mod] at hLft
  have HLft := Lib.hid hLft
  clear hLft hcy hcl
  go_wp2_with (first | (go_at_call 54; refine (HM.out _ _ (heap_alloc_new _ _)).mono ?_; rintro e w1 ⟨rfl, hb⟩; have HB := Aside0.mk (below_step (below_alloc (Below.refl _ _) _) hb); clear hb) | (go_at_call_of 55 (Value.string a); refine (of_any a HA.out _).mono ?_; rintro e w1 ⟨rfl, hb⟩; replace HB := Aside0.mk (below_step HB.out hb); clear hb) | (go_at_call_of 55 (Value.string b); refine (of_any b HA2.out _).mono ?_; rintro e w1 ⟨rfl, hb⟩; replace HB := Aside0.mk (below_step HB.out hb); clear hb) | (go_at_call 62; refine (plus_any (leV a) (leV b) _).mono ?_; rintro e w1 ⟨rfl, hb⟩; replace HB := Aside0.mk (below_step HB.out hb); clear hb; unfold aggN) | (go_at_call 56; refine (HLft.out _).mono ?_; rintro e w1 ⟨rfl, hb⟩; replace HB := Aside0.mk (below_step (below_alloc HB.out _) hb); clear hb) | (go_at_call 58; refine (text_any ((leV a + leV b) % P25) _).mono ?_; rintro e w1 ⟨rfl, hb⟩; replace HB := Aside0.mk (below_step HB.out hb); clear hb))
  go_ret2
  exact ⟨rfl, HB.out⟩
set_option maxHeartbeats 1000000 in
theorem Add_bad (hab : ¬ (a.size = 32 ∧ b.size = 32)) : Calls Try.prog 19 #[.string a, .string b] w fun e w' => e = .returned (.tuple #[.string ⟨#[]⟩, .int .i64 2]) ∧ Below w.heap.size w w' := by
  have hm := may2_any a b
  rw [if_neg hab] at hm
  have HM := Lib.hid hm
  clear hm hab
  go_enter Try.func19, Try.ntmps19
  go_wp2_with (go_at_call 54; refine (HM.out _ _ (heap_alloc_new _ _)).mono ?_; rintro e w1 ⟨rfl, hb⟩; have HB := Aside0.mk (below_step (below_alloc (Below.refl _ _) _) hb); clear hb)
  go_ret2
  exact ⟨rfl, HB.out⟩
end
end Go.Proofs.Ytdmpnogjpgoaaaa

set_option linter.unusedSimpArgs false
namespace Go.Proofs.Ytdmpnogjpgoaaaa
open Go.RowKit Go.Proofs.YtdmpnogjpgoaaaaW.PrintWords Go.Proofs.YtdmpnogjpgoaaaaW.PrintLast Go.Proofs.YtdmpnogjpgoaaaaW.PrintMore
theorem own_of_below {w w1 : World} (h : Below w.heap.size w w1) : Own w [] w1 := ⟨h, by simp, by simp⟩
theorem byts_add (v : Nat) : ∀ n, byts n (v + 256 ^ n) = byts n v
  | 0 => rfl
  | n + 1 => by
    show (v + 256 ^ (n + 1)) % 256 :: byts n ((v + 256 ^ (n + 1)) / 256) = v % 256 :: byts n (v / 256)
    have e : 256 ^ (n + 1) = 256 * 256 ^ n := by rw [Nat.pow_succ, Nat.mul_comm]
    rw [e, Nat.add_mul_mod_self_left, Nat.add_mul_div_left _ _ (by decide), byts_add (v / 256) n]
theorem textV_add (v : Nat) : textV (v + MM ^ 4) = textV v := by
  unfold textV
  rw [show MM ^ 4 = 256 ^ 32 by decide +kernel, byts_add]
theorem sub_text1 {x y : Nat} (hx : x < P25) (hy : y < P25) (h : x < y) : textV (x + MM ^ 4 - y + P25) = textV ((x + P25 - y) % P25) := by
  have h4 := MM4
  rw [Nat.mod_eq_of_lt (by omega), show x + MM ^ 4 - y + P25 = (x + P25 - y) + MM ^ 4 by omega, textV_add]
theorem sub_text2 {x y : Nat} (hx : x < P25) (hy : y < P25) (h : ¬ x < y) : textV (x + MM ^ 4 - y) = textV ((x + P25 - y) % P25) := by
  have h4 := MM4
  rw [show x + P25 - y = (x - y) + P25 by omega, Nat.add_mod_right, Nat.mod_eq_of_lt (by omega), show x + MM ^ 4 - y = (x - y) + MM ^ 4 by omega, textV_add]
attribute [local irreducible] Calls
section
variable (a b : ByteArray) (w : World)
set_option maxHeartbeats 1000000 in
set_option maxRecDepth 100000 in
theorem Sub_any (hab : a.size = 32 ∧ b.size = 32) : Calls Try.prog 20 #[.string a, .string b] w fun e w' => e = .returned (.tuple #[.string (textV ((leV a % P25 + P25 - leV b % P25) % P25)), .int .i64 0]) ∧ Below w.heap.size w w' := by
  have hm := may2_any a b
  rw [if_pos hab] at hm
  have HM := Lib.hid hm
  have HA : Aside0 (a.size = 32) := ⟨hab.1⟩
  have hl := Aside0.mk (leV_lt4 a HA.out)
  have HA2 : Aside0 (b.size = 32) := ⟨hab.2⟩
  have hl2 := Aside0.mk (leV_lt4 b HA2.out)
  clear hm hab
  have hu67 := Try.underlying67
  go_enter Try.func20, Try.ntmps20
  have hx := modP_lt (leV a)
  have hy := modP_lt (leV b)
  have hLs := fun W => less_any (leV a % P25) (leV b % P25) W hy
  rw [bw_4 _ _ hx hy] at hLs
  have hp := P25_pos
  have hxp := Nat.mod_lt (leV a) (show 0 < P25 by omega)
  have hyp := Nat.mod_lt (leV b) (show 0 < P25 by omega)
  have h4 := MM4
  by_cases hlt : leV a % P25 < leV b % P25
  · rw [if_pos hlt] at hLs
    have HLs := Lib.hid hLs
    have HR : Aside0 (textV (leV a % P25 + MM ^ 4 - leV b % P25 + P25) = textV ((leV a % P25 + P25 - leV b % P25) % P25)) := ⟨sub_text1 hxp hyp hlt⟩
    clear hLs hx hy hp hxp hyp h4 hlt
    go_wp2_with (first | (go_at_call 54; refine (HM.out _ _ (heap_alloc_new _ _)).mono ?_; rintro e w1 ⟨rfl, hb⟩; have HB := Aside0.mk (below_step (below_alloc (Below.refl _ _) _) hb); clear hb) | (go_at_call_of 55 (Value.string a); refine (of_any a HA.out _).mono ?_; rintro e w1 ⟨rfl, hb⟩; replace HB := Aside0.mk (below_step HB.out hb); clear hb) | (go_at_call_of 55 (Value.string b); refine (of_any b HA2.out _).mono ?_; rintro e w1 ⟨rfl, hb⟩; replace HB := Aside0.mk (below_step HB.out hb); clear hb) | (go_at_call_of 56 (Value.agg (aggN (leV a))); refine (left0_any (leV a) _ hl.out).mono ?_; rintro e w1 ⟨rfl, hb⟩; replace HB := Aside0.mk (below_step HB.out hb); clear hb) | (go_at_call_of 56 (Value.agg (aggN (leV b))); refine (left0_any (leV b) _ hl2.out).mono ?_; rintro e w1 ⟨rfl, hb⟩; replace HB := Aside0.mk (below_step HB.out hb); clear hb) | (go_at_call 63; refine (HLs.out _).mono ?_; rintro e w5 ⟨rfl, hb⟩; replace HB := Aside0.mk (below_step HB.out hb); clear hb; have HO := (own_of_below HB.out).alloc (.cells (aggN (leV a % P25 + MM ^ 4 - leV b % P25)) 67); have hz := HO.lt 0 rfl; unfold aggN))
    refine kstart (n := 7) (ds := [6]) #[false, false, false, false, false, false, false] (by kernel_rfl) rfl rfl ?_
    refine ktake (i := 0) (N := (some 29)) (v := ?_) (a' := ?_) #[true, false, false, false, false, false, false] rfl rfl (by kernel_rfl) (fun _ _ _ h => h) (Or.inl ⟨by rfl, fun w1 hg => ?_⟩) ?_ ?_  -- 0 load 67 (tmp 7)
    rotate_left
    · refine RunG_value ?_; have c0 := (HO.up hg).cell 0 rfl; unfold aggN at c0; go_simp; with_reducible rfl
    rotate_left
    · simp only [Act.put, List.setIfInBounds_toArray, List.set_cons_zero, List.set_cons_succ, i64_w, i32_w]; rfl
    refine ktake (i := 1) (N := (some 30)) (v := .agg (aggN P25)) (a' := ?_) #[true, true, false, false, false, false, false] rfl rfl (by kernel_rfl) (fun _ _ _ h => h) (Or.inl ⟨by rfl, fun w1 hg => RunG_call Try.func64 (by kernel_rfl) rfl [] rfl (by rfl) (prime_any _)⟩) ?_ ?_  -- 1 call { callee := value (func 64), args := #[], argTypes := #[] }
    rotate_left
    · simp only [Act.put, List.setIfInBounds_toArray, List.set_cons_zero, List.set_cons_succ, i64_w, i32_w]; rfl
    refine ktake (i := 2) (N := (some 31)) (v := .tuple #[.agg (aggN (leV a % P25 + MM ^ 4 - leV b % P25 + P25)), .int .u64 (cy (leV a % P25 + MM ^ 4 - leV b % P25) P25 4 : Nat)]) (a' := ?_) #[true, true, true, false, false, false, false] rfl rfl (by kernel_rfl) (fun _ _ _ h => h) (Or.inl ⟨by rfl, fun w1 hg => RunG_call Try.func62 (by kernel_rfl) rfl [.agg (aggN (leV a % P25 + MM ^ 4 - leV b % P25)), .agg (aggN P25)] rfl (by rfl) (plus_any (leV a % P25 + MM ^ 4 - leV b % P25) P25 _)⟩) ?_ ?_  -- 2 call { callee := value (func 62), args := #[tmp 29, tmp 30], argTypes := #[67, 67] }
    rotate_left
    · simp only [Act.put, List.setIfInBounds_toArray, List.set_cons_zero, List.set_cons_succ, i64_w, i32_w]; rfl
    refine kpure (i := 3) (N := (some 28)) (v := ?_) (a' := ?_) #[true, true, true, true, false, false, false] rfl rfl (by kernel_rfl) (fun _ _ _ h => h) (Or.inl ⟨by rfl, ?_⟩) ?_ ?_  -- 3 move (tmp 31)
    rotate_left
    · intro w'; go_simp; with_reducible rfl
    rotate_left
    · simp only [Act.put, List.setIfInBounds_toArray, List.set_cons_zero, List.set_cons_succ, i64_w, i32_w]; rfl
    refine kpure (i := 4) (N := (some 32)) (v := ?_) (a' := ?_) #[true, true, true, true, true, false, false] rfl rfl (by kernel_rfl) (fun _ _ _ h => h) (Or.inl ⟨by rfl, ?_⟩) ?_ ?_  -- 4 extract (tmp 28) 0
    rotate_left
    · intro w'; go_simp; with_reducible rfl
    rotate_left
    · simp only [Act.put, List.setIfInBounds_toArray, List.set_cons_zero, List.set_cons_succ, i64_w, i32_w]; rfl
    refine kpure (i := 5) (N := (some 33)) (v := ?_) (a' := ?_) #[true, true, true, true, true, true, false] rfl rfl (by kernel_rfl) (fun _ _ _ h => h) (Or.inl ⟨by rfl, ?_⟩) ?_ ?_  -- 5 extract (tmp 28) 1
    rotate_left
    · intro w'; go_simp; with_reducible rfl
    rotate_left
    · simp only [Act.put, List.setIfInBounds_toArray, List.set_cons_zero, List.set_cons_succ, i64_w, i32_w]; rfl
    refine kone (i := 6) (N := none) #[true, true, true, true, true, true, true] rfl rfl (by kernel_rfl) (fun w1 hg K hK => ?_)  -- 6 store 67 (tmp 7) (tmp 32)
    rw [if_pos (by rfl)]
    replace HO := HO.up hg
    have c1 := HO.cell 0 rfl
    have f1 := HO.frozen 0 rfl
    unfold aggN at c1 ⊢
    go_simp
    refine hK _ _ (fun h => absurd (by decide) h) ?_
    replace HO : Own w [(w5.heap.size, .cells (aggN (leV a % P25 + MM ^ 4 - leV b % P25 + P25)) 67 (0, 0))] _ := (((HO.set 0 rfl 0 _).set 0 rfl 1 _).set 0 rfl 2 _).set 0 rfl 3 _
    clear c1 f1 hg K hK
    revert HO
    generalize (((w1.setCell _ _).setCell _ _).setCell _ _).setCell _ _ = wb
    intro HO
    refine kdone (by kernel_rfl) (fun w1 hg => ?_)
    replace HO := HO.up hg
    have c0 := HO.cell 0 rfl
    unfold aggN at c0
    have HT := Lib.hid (fun W => text_any (leV a % P25 + MM ^ 4 - leV b % P25 + P25) W)
    rw [HR.out] at HT
    unfold aggN at HT
    go_wp2_with (go_at_call 58; refine (HT.out _).mono ?_; rintro e w1 ⟨rfl, hb⟩; replace HO := HO.up hb; clear hb c0)
    go_ret2
    exact ⟨rfl, HO.below⟩
  · rw [if_neg hlt] at hLs
    have HLs := Lib.hid hLs
    have HR : Aside0 (textV (leV a % P25 + MM ^ 4 - leV b % P25) = textV ((leV a % P25 + P25 - leV b % P25) % P25)) := ⟨sub_text2 hxp hyp hlt⟩
    clear hLs hx hy hp hxp hyp h4 hlt
    go_wp2_with (first | (go_at_call 54; refine (HM.out _ _ (heap_alloc_new _ _)).mono ?_; rintro e w1 ⟨rfl, hb⟩; have HB := Aside0.mk (below_step (below_alloc (Below.refl _ _) _) hb); clear hb) | (go_at_call_of 55 (Value.string a); refine (of_any a HA.out _).mono ?_; rintro e w1 ⟨rfl, hb⟩; replace HB := Aside0.mk (below_step HB.out hb); clear hb) | (go_at_call_of 55 (Value.string b); refine (of_any b HA2.out _).mono ?_; rintro e w1 ⟨rfl, hb⟩; replace HB := Aside0.mk (below_step HB.out hb); clear hb) | (go_at_call_of 56 (Value.agg (aggN (leV a))); refine (left0_any (leV a) _ hl.out).mono ?_; rintro e w1 ⟨rfl, hb⟩; replace HB := Aside0.mk (below_step HB.out hb); clear hb) | (go_at_call_of 56 (Value.agg (aggN (leV b))); refine (left0_any (leV b) _ hl2.out).mono ?_; rintro e w1 ⟨rfl, hb⟩; replace HB := Aside0.mk (below_step HB.out hb); clear hb) | (go_at_call 63; refine (HLs.out _).mono ?_; rintro e w5 ⟨rfl, hb⟩; replace HB := Aside0.mk (below_step HB.out hb); clear hb; have HO := (own_of_below HB.out).alloc (.cells (aggN (leV a % P25 + MM ^ 4 - leV b % P25)) 67); have hz := HO.lt 0 rfl; unfold aggN) | (go_at_call 58; refine (text_any (leV a % P25 + MM ^ 4 - leV b % P25) _).mono ?_; rw [HR.out]; rintro e w6 ⟨rfl, hb⟩; replace HO := HO.up hb; clear hb))
    go_ret2
    exact ⟨rfl, HO.below⟩
set_option maxHeartbeats 1000000 in
theorem Sub_bad (hab : ¬ (a.size = 32 ∧ b.size = 32)) : Calls Try.prog 20 #[.string a, .string b] w fun e w' => e = .returned (.tuple #[.string ⟨#[]⟩, .int .i64 2]) ∧ Below w.heap.size w w' := by
  have hm := may2_any a b
  rw [if_neg hab] at hm
  have HM := Lib.hid hm
  clear hm hab
  go_enter Try.func20, Try.ntmps20
  go_wp2_with (go_at_call 54; refine (HM.out _ _ (heap_alloc_new _ _)).mono ?_; rintro e w1 ⟨rfl, hb⟩; have HB := Aside0.mk (below_step (below_alloc (Below.refl _ _) _) hb); clear hb)
  go_ret2
  exact ⟨rfl, HB.out⟩
end
end Go.Proofs.Ytdmpnogjpgoaaaa

set_option linter.unusedSimpArgs false
/-! The reference of layer 1, by numbers. -/
namespace Go.Proofs.Ytdmpnogjpgoaaaa
open Go.RowKit Go.Proofs.YtdmpnogjpgoaaaaW.PrintWords Go.Proofs.YtdmpnogjpgoaaaaW.PrintLast Go.Proofs.YtdmpnogjpgoaaaaW.PrintMore
/-- u is a slice that reads as a number's 16 digits. -/
structure Dg (w : World) (v : Nat) (u : Value) : Prop where
  out : ∃ A c, u = .slice A (I (digs 16 v)).length c ∧ (I (digs 16 v)).length ≤ c ∧ Kd.C (Kd.int .i64) w A (I (digs 16 v)).length (I (digs 16 v))
theorem Dg.up {w w1 : World} {v : Nat} {u : Value} (h : Dg w v u) (hb : Below w.heap.size w w1) : Dg w1 v u := by
  obtain ⟨A, c, e, h1, h2⟩ := h.out
  exact ⟨A, c, e, h1, Kd.C_below h2 hb⟩
theorem Dg.of_R {w : World} {B : Nat} {ok : Nat → Prop} {v : Nat} {u : Value} (h : Kd.R (Kd.int .i64) 3 w B ok u (I (digs 16 v))) : Dg w v u := ⟨Kd.R_reads h⟩
/-- a call gives a number's digits -/
structure GivesD (v : Nat) (w : World) (e : Ending) (w' : World) : Prop where
  out : ∃ u, e = .returned u ∧ Dg w' v u ∧ Below w.heap.size w w'
theorem refDigits (s : ByteArray) (hs : s.size = 32) (w : World) : Calls Try.prog 17 #[.string s] w (GivesD (leV s) w) :=
  (PLimbTells.demurralref01_Digits.calls 17 s _ w (digitsS s hs 17 (by omega))).mono fun _ _ ⟨v, h1, h2, h3⟩ => ⟨v, h1, .of_R h2, h3⟩
theorem refText {w : World} {v : Nat} {u : Value} (h : Dg w v u) : Calls Try.prog 14 #[u] w fun e w' => e = .returned (.string (textV v)) ∧ Below w.heap.size w w' := by
  obtain ⟨A, c, rfl, h1, h2⟩ := h.out
  exact PLimbTells.demurralref01_Text.calls 17 A c _ _ w h2 h1 (textS v 17 (by omega))
theorem refLeft {w : World} {v : Nat} {u : Value} (h : Dg w v u) (hv : v < 65536 ^ 16) : Calls Try.prog 16 #[u] w (GivesD (v % P25) w) := by
  obtain ⟨A, c, rfl, h1, h2⟩ := h.out
  have hS := LeftS (digs 16 v) (digs_len _ _) (fun d hd => by have := digs_lt _ _ d hd; omega) 60 (by omega)
  rw [valD_digs, Nat.mod_eq_of_lt hv] at hS
  exact (PLimbTells.demurralref01_Left.calls 60 A c _ _ w h2 h1 hS).mono fun _ _ ⟨v, h1, h2, h3⟩ => ⟨v, h1, .of_R h2, h3⟩
theorem refAdd {w : World} {v1 v2 : Nat} {u1 u2 : Value} (h : Dg w v1 u1) (k : Dg w v2 u2) (hv1 : v1 < 65536 ^ 16) (hv2 : v2 < 65536 ^ 16) : Calls Try.prog 23 #[u1, u2] w (GivesD ((v1 + v2) % P25) w) := by
  obtain ⟨A, c, rfl, h1, h2⟩ := h.out
  obtain ⟨A', c', rfl, k1, k2⟩ := k.out
  exact (PLimbTells.demurralref01_Add.calls 61 A c _ A' c' _ _ w h2 h1 k2 k1 (addS v1 v2 hv1 hv2 61 (by omega))).mono fun _ _ ⟨v, h1, h2, h3⟩ => ⟨v, h1, .of_R h2, h3⟩
theorem refSub {w : World} {v1 v2 : Nat} {u1 u2 : Value} (h : Dg w v1 u1) (k : Dg w v2 u2) (hv1 : v1 < 65536 ^ 16) (hv2 : v2 < P25) : Calls Try.prog 24 #[u1, u2] w (GivesD ((v1 + P25 - v2) % P25) w) := by
  obtain ⟨A, c, rfl, h1, h2⟩ := h.out
  obtain ⟨A', c', rfl, k1, k2⟩ := k.out
  exact (PLimbTells.demurralref01_Sub.calls 61 A c _ A' c' _ _ w h2 h1 k2 k1 (subS v1 v2 hv1 hv2 61 (by omega))).mono fun _ _ ⟨v, h1, h2, h3⟩ => ⟨v, h1, .of_R h2, h3⟩
theorem refMul {w : World} {v1 v2 : Nat} {u1 u2 : Value} (h : Dg w v1 u1) (k : Dg w v2 u2) (hv1 : v1 < 65536 ^ 16) (hv2 : v2 < 65536 ^ 16) : Calls Try.prog 25 #[u1, u2] w (GivesD (v1 * v2 % P25) w) := by
  obtain ⟨A, c, rfl, h1, h2⟩ := h.out
  obtain ⟨A', c', rfl, k1, k2⟩ := k.out
  exact (PLimbTells.demurralref01_Mul.calls 329 A c _ A' c' _ _ w h2 h1 k2 k1 (mulS v1 v2 hv1 hv2 329 (by omega))).mono fun _ _ ⟨v, h1, h2, h3⟩ => ⟨v, h1, .of_R h2, h3⟩
theorem sizedS_l (l : List ByteArray) (hl : l.length ≤ 1000) : ∀ (k i : Nat), i ≤ l.length → l.length - i < k →
    PLimbTells.demurralref01_Sized.l0 k l l.length i = some ((l.drop i).all (fun x => x.size == 32)) := by
  intro k
  induction k with
  | zero => intro i _ h; omega
  | succ k ih =>
    intro i hi hk
    simp only [PLimbTells.demurralref01_Sized.l0]
    by_cases h : i < l.length
    · have e : rdOf ByteArray.empty l (i : Int) = l[i] := by simp [rdOf, List.getD_eq_getElem?_getD, List.getElem?_eq_getElem h]
      rw [if_pos (by omega), if_pos (by omega), if_pos (by omega), e, List.drop_eq_getElem_cons h, List.all_cons]
      by_cases hs : l[i].size = 32
      · rw [if_pos (by omega), wr (by omega), show (i : Int) + 1 = ((i + 1 : Nat) : Int) by omega, ih (i + 1) (by omega) (by omega)]
        simp [hs]
      · rw [if_neg (by omega)]
        simp [hs]
    · rw [if_neg (by omega), List.drop_eq_nil_of_le (by omega)]; rfl
theorem refSized (l : List ByteArray) (hl : l.length ≤ 1000) (w : World) (g : Nat) (h : w.heap[g]? = some (.cells (l.map Value.string).toArray 9 (0, 0))) :
    Calls Try.prog 22 #[.slice (some ⟨g, 0, none⟩) l.length l.length] w fun e w' => e = .returned (.bool (l.all (fun x => x.size == 32))) ∧ Below w.heap.size w w' := by
  have := sizedS_l l hl (l.length + 1) 0 (by omega) (by omega)
  exact (PLimbTells.demurralref01_Sized.calls (l.length + 1) _ _ l _ w (C_strs l (by omega) h) (Nat.le_refl _) this).mono fun _ _ h => ⟨h.1, h.2.below⟩
/-! ### the law's own helpers -/
def cutN (s : ByteArray) (n : Nat) : ByteArray := s.extract 0 (min s.size n)
theorem cutN_size (s : ByteArray) (n : Nat) : (cutN s n).size = min s.size n := by unfold cutN; rw [ByteArray.size_extract]; omega
theorem lawCut (s : ByteArray) (w : World) : Calls Try.prog 11 #[.string s] w fun e w' => e = .returned (.string (cutN s 34)) ∧ Below w.heap.size w w' := by
  refine PLimbTells.demurrallaw01_cut.calls s _ w ?_
  unfold PLimbTells.demurrallaw01_cut.f cutN mn
  split
  · rw [if_pos (by omega), if_pos (by omega), Nat.min_eq_right (by omega)]; rfl
  · rw [if_pos (by omega), if_pos (by omega), Nat.min_eq_left (by omega)]; rfl
theorem small_eq (n : Nat) (hn : n < 256) : PLimbTells.demurrallaw01_small.f n = some (textV n) := by
  unfold PLimbTells.demurrallaw01_small.f textV
  rw [if_pos (by omega), Option.bind_some, if_pos (by simp)]
  have : byts 32 n = n :: List.replicate 31 0 := by
    show n % 256 :: byts 31 (n / 256) = _
    rw [Nat.mod_eq_of_lt hn, Nat.div_eq_of_lt hn]; rfl
  rw [this]; rfl
theorem small_any (n : Nat) (hn : n < 256) (w : World) : Calls Try.prog 27 #[.int .u8 n] w fun e w' => e = .returned (.string (textV n)) ∧ Below w.heap.size w w' :=
  PLimbTells.demurrallaw01_small.calls n _ w (small_eq n hn)
end Go.Proofs.Ytdmpnogjpgoaaaa

set_option linter.unusedSimpArgs false
namespace Go.Proofs.Ytdmpnogjpgoaaaa
open Go.RowKit Go.Proofs.YtdmpnogjpgoaaaaW.PrintWords Go.Proofs.YtdmpnogjpgoaaaaW.PrintLast Go.Proofs.YtdmpnogjpgoaaaaW.PrintMore
attribute [local irreducible] Calls
set_option maxHeartbeats 1000000 in
set_option maxRecDepth 100000 in
theorem alive01 (w : World) : Calls Try.prog 13 #[] w fun e w' => e = .returned (.bool true) ∧ Below w.heap.size w w' := by
  have s6 : ∀ W : World, Calls Try.prog 27 #[.int .u8 6] W fun e w' => e = .returned (.string (textV 6)) ∧ Below W.heap.size W w' := fun W => small_any 6 (by omega) W
  have s7 : ∀ W : World, Calls Try.prog 27 #[.int .u8 7] W fun e w' => e = .returned (.string (textV 7)) ∧ Below W.heap.size W w' := fun W => small_any 7 (by omega) W
  have s42 : ∀ W : World, Calls Try.prog 27 #[.int .u8 42] W fun e w' => e = .returned (.string (textV 42)) ∧ Below W.heap.size W w' := fun W => small_any 42 (by omega) W
  have hm := fun W => Mul_any (textV 6) (textV 7) W ⟨textV_size 6, textV_size 7⟩
  rw [leV_textV, leV_textV, show 6 % 256 ^ 32 * (7 % 256 ^ 32) % P25 = 42 by decide +kernel] at hm
  have t1 : (((textV 42).size : Int) == 32) = true := by rw [textV_size]; rfl
  have S6 := Lib.hid s6
  have S7 := Lib.hid s7
  have S42 := Lib.hid s42
  have HM := Lib.hid hm
  have HB := Aside0.mk (Below.refl w.heap.size w)
  clear s6 s7 s42 hm
  generalize textV 6 = x6 at *
  generalize textV 7 = x7 at *
  generalize textV 42 = x42 at *
  go_enter Try.func13, Try.ntmps13
  go_wp2_with (first | (go_at_call_of 27 (Value.int IntKind.u8 6); refine (S6.out _).mono ?_; rintro e w1 ⟨rfl, hb⟩; replace HB := Aside0.mk (below_step HB.out hb); clear hb) | (go_at_call_of 27 (Value.int IntKind.u8 7); refine (S7.out _).mono ?_; rintro e w1 ⟨rfl, hb⟩; replace HB := Aside0.mk (below_step HB.out hb); clear hb) | (go_at_call_of 27 (Value.int IntKind.u8 42); refine (S42.out _).mono ?_; rintro e w1 ⟨rfl, hb⟩; replace HB := Aside0.mk (below_step HB.out hb); clear hb) | (go_at_call 21; refine (HM.out _).mono ?_; rintro e w1 ⟨rfl, hb⟩; replace HB := Aside0.mk (below_step HB.out hb); clear hb))
  go_ret
  exact ⟨rfl, HB.out⟩
end Go.Proofs.Ytdmpnogjpgoaaaa

set_option linter.unusedSimpArgs false
namespace Go.Proofs.Ytdmpnogjpgoaaaa
open Go.RowKit Go.Proofs.YtdmpnogjpgoaaaaW.PrintWords Go.Proofs.YtdmpnogjpgoaaaaW.PrintLast Go.Proofs.YtdmpnogjpgoaaaaW.PrintMore
theorem refSized2 (x y : ByteArray) (w : World) (g : Nat) (h : w.heap[g]? = some (.cells #[.string x, .string y] 9 (0, 0))) (b : Bool) (hb : [x, y].all (fun x => x.size == 32) = b) :
    Calls Try.prog 22 #[.slice (some ⟨g, 0, none⟩) 2 2] w fun e w' => e = .returned (.bool b) ∧ Below w.heap.size w w' := hb ▸ refSized [x, y] (by simp) w g h
theorem sz_t {x : ByteArray} (h : x.size = 32) : ((x.size : Int) == 32) = true := by rw [h]; rfl
theorem sz_f {x : ByteArray} (h : x.size ≠ 32) : ((x.size : Int) == 32) = false := by rw [beq_eq_false_iff_ne]; omega
theorem leV_16 (s : ByteArray) (h : s.size = 32) : leV s < 65536 ^ 16 := by have := leV_lt s h; exact this
theorem modP_16 (x : Nat) : x % P25 < 65536 ^ 16 := modP_lt x
theorem modP_P (x : Nat) : x % P25 < P25 := Nat.mod_lt _ (by have := P25_pos; omega)
attribute [local irreducible] Calls
set_option maxHeartbeats 4000000 in
set_option maxRecDepth 100000 in
theorem LimbTells_walk (a b : ByteArray) (W : World) : Calls Try.prog 4 #[.string a, .string b] W fun e W' => e = .returned (.bool true) ∧ Below W.heap.size W W' := by
  by_cases hx : (cutN a 34).size = 32 <;> by_cases hy : (cutN b 34).size = 32
  · skip
    go_enter Try.func4, Try.ntmps4
    go_wp2_with fail
    refine (lawCut a _).mono ?_
    rintro e w1 ⟨rfl, hb⟩
    have HB := Aside0.mk hb
    clear hb
    go_wp2_with fail
    refine (lawCut b _).mono ?_
    rintro e w1 ⟨rfl, hb⟩
    replace HB := Aside0.mk (below_step HB.out hb)
    clear hb
    generalize cutN a 34 = x at *
    generalize cutN b 34 = y at *
    have tx := sz_t hx
    have HX := Aside0.mk hx
    clear hx
    have HY := Aside0.mk hy
    clear hy
    go_wp2_with fail
    refine (Norm_any x _ HX.out).mono ?_
    rintro e w1 ⟨rfl, hb⟩
    replace HB := Aside0.mk (below_step HB.out hb)
    clear hb
    go_wp2_with fail
    refine (Add_any x y _ ⟨HX.out, HY.out⟩).mono ?_
    rintro e w1 ⟨rfl, hb⟩
    replace HB := Aside0.mk (below_step HB.out hb)
    clear hb
    go_wp2_with fail
    refine (Sub_any x y _ ⟨HX.out, HY.out⟩).mono ?_
    rintro e w1 ⟨rfl, hb⟩
    replace HB := Aside0.mk (below_step HB.out hb)
    clear hb
    go_wp2_with fail
    refine (Mul_any x y _ ⟨HX.out, HY.out⟩).mono ?_
    rintro e w1 ⟨rfl, hb⟩
    replace HB := Aside0.mk (below_step HB.out hb)
    clear hb
    go_wp2_with fail
    refine (refDigits x HX.out _).mono ?_
    rintro e w1 ⟨⟨u1, rfl, D1, hb⟩⟩
    replace HB := Aside0.mk (below_step HB.out hb)
    clear hb
    go_wp2_with fail
    refine (refLeft D1 (leV_16 x HX.out)).mono ?_
    rintro e w1 ⟨⟨u2, rfl, D2, hb⟩⟩
    replace HB := Aside0.mk (below_step HB.out hb)
    clear hb
    go_wp2_with fail
    refine (refText D2).mono ?_
    rintro e w1 ⟨rfl, hb⟩
    replace HB := Aside0.mk (below_step HB.out hb)
    clear hb
    go_wp2_with fail
    refine (alive01 _).mono ?_
    rintro e w1 ⟨rfl, hb⟩
    replace HB := Aside0.mk (below_step HB.out hb)
    clear hb
    go_wp2_with fail
    refine (refSized2 x y _ _ (heap_alloc_new _ _) true (by simp [HX.out, HY.out])).mono ?_
    rintro e w1 ⟨rfl, hb⟩
    replace HB := Aside0.mk (below_step (below_alloc HB.out _) hb)
    clear hb
    clear D1 D2
    go_wp2_with fail
    refine (refDigits x HX.out _).mono ?_
    rintro e w1 ⟨⟨u3, rfl, D3, hb⟩⟩
    replace HB := Aside0.mk (below_step HB.out hb)
    clear hb
    go_wp2_with fail
    refine (refDigits y HY.out _).mono ?_
    rintro e w1 ⟨⟨u4, rfl, D4, hb⟩⟩
    replace HB := Aside0.mk (below_step HB.out hb)
    replace D3 := D3.up hb
    clear hb
    go_wp2_with fail
    refine (refAdd D3 D4 (leV_16 x HX.out) (leV_16 y HY.out)).mono ?_
    rintro e w1 ⟨⟨u5, rfl, D5, hb⟩⟩
    replace HB := Aside0.mk (below_step HB.out hb)
    replace D3 := D3.up hb
    replace D4 := D4.up hb
    clear hb
    go_wp2_with fail
    refine (refText D5).mono ?_
    rintro e w1 ⟨rfl, hb⟩
    replace HB := Aside0.mk (below_step HB.out hb)
    replace D3 := D3.up hb
    replace D4 := D4.up hb
    clear hb
    go_wp2_with fail
    refine (refLeft D3 (leV_16 x HX.out)).mono ?_
    rintro e w1 ⟨⟨u6, rfl, D6, hb⟩⟩
    replace HB := Aside0.mk (below_step HB.out hb)
    replace D3 := D3.up hb
    replace D4 := D4.up hb
    clear hb
    go_wp2_with fail
    refine (refLeft D4 (leV_16 y HY.out)).mono ?_
    rintro e w1 ⟨⟨u7, rfl, D7, hb⟩⟩
    replace HB := Aside0.mk (below_step HB.out hb)
    replace D3 := D3.up hb
    replace D4 := D4.up hb
    replace D6 := D6.up hb
    clear hb
    go_wp2_with fail
    refine (refSub D6 D7 (modP_16 _) (modP_P _)).mono ?_
    rintro e w1 ⟨⟨u8, rfl, D8, hb⟩⟩
    replace HB := Aside0.mk (below_step HB.out hb)
    replace D3 := D3.up hb
    replace D4 := D4.up hb
    clear hb
    go_wp2_with fail
    refine (refText D8).mono ?_
    rintro e w1 ⟨rfl, hb⟩
    replace HB := Aside0.mk (below_step HB.out hb)
    replace D3 := D3.up hb
    replace D4 := D4.up hb
    clear hb
    go_wp2_with fail
    refine (refMul D3 D4 (leV_16 x HX.out) (leV_16 y HY.out)).mono ?_
    rintro e w1 ⟨⟨u9, rfl, D9, hb⟩⟩
    replace HB := Aside0.mk (below_step HB.out hb)
    clear hb
    go_wp2_with fail
    refine (refText D9).mono ?_
    rintro e w1 ⟨rfl, hb⟩
    replace HB := Aside0.mk (below_step HB.out hb)
    clear hb
    go_wp2
    go_ret
    exact ⟨rfl, HB.out⟩
  · skip
    go_enter Try.func4, Try.ntmps4
    go_wp2_with fail
    refine (lawCut a _).mono ?_
    rintro e w1 ⟨rfl, hb⟩
    have HB := Aside0.mk hb
    clear hb
    go_wp2_with fail
    refine (lawCut b _).mono ?_
    rintro e w1 ⟨rfl, hb⟩
    replace HB := Aside0.mk (below_step HB.out hb)
    clear hb
    generalize cutN a 34 = x at *
    generalize cutN b 34 = y at *
    have tx := sz_t hx
    have HX := Aside0.mk hx
    clear hx
    have HY := Aside0.mk hy
    clear hy
    go_wp2_with fail
    refine (Norm_any x _ HX.out).mono ?_
    rintro e w1 ⟨rfl, hb⟩
    replace HB := Aside0.mk (below_step HB.out hb)
    clear hb
    go_wp2_with fail
    refine (Add_bad x y _ (fun h => HY.out h.2)).mono ?_
    rintro e w1 ⟨rfl, hb⟩
    replace HB := Aside0.mk (below_step HB.out hb)
    clear hb
    go_wp2_with fail
    refine (Sub_bad x y _ (fun h => HY.out h.2)).mono ?_
    rintro e w1 ⟨rfl, hb⟩
    replace HB := Aside0.mk (below_step HB.out hb)
    clear hb
    go_wp2_with fail
    refine (Mul_bad x y _ (fun h => HY.out h.2)).mono ?_
    rintro e w1 ⟨rfl, hb⟩
    replace HB := Aside0.mk (below_step HB.out hb)
    clear hb
    go_wp2_with fail
    refine (refDigits x HX.out _).mono ?_
    rintro e w1 ⟨⟨u1, rfl, D1, hb⟩⟩
    replace HB := Aside0.mk (below_step HB.out hb)
    clear hb
    go_wp2_with fail
    refine (refLeft D1 (leV_16 x HX.out)).mono ?_
    rintro e w1 ⟨⟨u2, rfl, D2, hb⟩⟩
    replace HB := Aside0.mk (below_step HB.out hb)
    clear hb
    go_wp2_with fail
    refine (refText D2).mono ?_
    rintro e w1 ⟨rfl, hb⟩
    replace HB := Aside0.mk (below_step HB.out hb)
    clear hb
    go_wp2_with fail
    refine (alive01 _).mono ?_
    rintro e w1 ⟨rfl, hb⟩
    replace HB := Aside0.mk (below_step HB.out hb)
    clear hb
    go_wp2_with fail
    refine (refSized2 x y _ _ (heap_alloc_new _ _) false (by simp [HX.out, HY.out])).mono ?_
    rintro e w1 ⟨rfl, hb⟩
    replace HB := Aside0.mk (below_step (below_alloc HB.out _) hb)
    clear hb
    go_wp2
    go_ret
    refine ⟨congrArg (fun b => Ending.returned (Value.bool b)) (a₁ := (ByteArray.mk #[] ++ ByteArray.mk #[] ++ ByteArray.mk #[]).toList.isEmpty) (a₂ := true) ?_, HB.out⟩
    decide +kernel
  all_goals
    go_enter Try.func4, Try.ntmps4
    go_wp2_with fail
    refine (lawCut a _).mono ?_
    rintro e w1 ⟨rfl, hb⟩
    have HB := Aside0.mk hb
    clear hb
    go_wp2_with fail
    refine (lawCut b _).mono ?_
    rintro e w1 ⟨rfl, hb⟩
    replace HB := Aside0.mk (below_step HB.out hb)
    clear hb
    generalize cutN a 34 = x at *
    generalize cutN b 34 = y at *
    have tx := sz_f hx
    have HX := Aside0.mk hx
    clear hx hy
    go_wp2_with fail
    refine (Norm_bad x _ HX.out).mono ?_
    rintro e w1 ⟨rfl, hb⟩
    replace HB := Aside0.mk (below_step HB.out hb)
    clear hb
    go_wp2_with fail
    refine (Add_bad x y _ (fun h => HX.out h.1)).mono ?_
    rintro e w1 ⟨rfl, hb⟩
    replace HB := Aside0.mk (below_step HB.out hb)
    clear hb
    go_wp2_with fail
    refine (Sub_bad x y _ (fun h => HX.out h.1)).mono ?_
    rintro e w1 ⟨rfl, hb⟩
    replace HB := Aside0.mk (below_step HB.out hb)
    clear hb
    go_wp2_with fail
    refine (Mul_bad x y _ (fun h => HX.out h.1)).mono ?_
    rintro e w1 ⟨rfl, hb⟩
    replace HB := Aside0.mk (below_step HB.out hb)
    clear hb
    go_wp2_with fail
    refine (alive01 _).mono ?_
    rintro e w1 ⟨rfl, hb⟩
    replace HB := Aside0.mk (below_step HB.out hb)
    clear hb
    go_wp2_with fail
    refine (refSized2 x y _ _ (heap_alloc_new _ _) false (by simp [HX.out])).mono ?_
    rintro e w1 ⟨rfl, hb⟩
    replace HB := Aside0.mk (below_step (below_alloc HB.out _) hb)
    clear hb
    go_wp2
    go_ret
    refine ⟨congrArg (fun b => Ending.returned (Value.bool b)) (a₁ := (ByteArray.mk #[] ++ ByteArray.mk #[] ++ ByteArray.mk #[]).toList.isEmpty) (a₂ := true) ?_, HB.out⟩
    decide +kernel
end Go.Proofs.Ytdmpnogjpgoaaaa

import Derived.Test.YtdmpnogjpgoaaaaLimbX3
import Derived.Test.YtdmpnogjpgoaaaaReg
set_option linter.unusedSimpArgs false
namespace Go.Proofs.Ytdmpnogjpgoaaaa
open Go.RowKit Go.Proofs.YtdmpnogjpgoaaaaW.PrintWords Go.Proofs.YtdmpnogjpgoaaaaW.PrintLast Go.Proofs.YtdmpnogjpgoaaaaW.PrintMore
theorem own_of_below {w w1 : World} (h : Below w.heap.size w w1) : Own w [] w1 := ⟨h, by simp, by simp⟩
theorem byts_add (v : Nat) : ∀ n, byts n (v + 256 ^ n) = byts n v
  | 0 => rfl
  | n + 1 => by
    show (v + 256 ^ (n + 1)) % 256 :: byts n ((v + 256 ^ (n + 1)) / 256) = v % 256 :: byts n (v / 256)
    have e : 256 ^ (n + 1) = 256 * 256 ^ n := by rw [Nat.pow_succ, Nat.mul_comm]
    rw [e, Nat.add_mul_mod_self_left, Nat.add_mul_div_left _ _ (by decide), byts_add (v / 256) n]
theorem textV_add (v : Nat) : textV (v + MM ^ 4) = textV v := by
  unfold textV
  rw [show MM ^ 4 = 256 ^ 32 by decide +kernel, byts_add]
theorem sub_text1 {x y : Nat} (hx : x < P25) (hy : y < P25) (h : x < y) : textV (x + MM ^ 4 - y + P25) = textV ((x + P25 - y) % P25) := by
  have h4 := MM4
  rw [Nat.mod_eq_of_lt (by omega), show x + MM ^ 4 - y + P25 = (x + P25 - y) + MM ^ 4 by omega, textV_add]
theorem sub_text2 {x y : Nat} (hx : x < P25) (hy : y < P25) (h : ¬ x < y) : textV (x + MM ^ 4 - y) = textV ((x + P25 - y) % P25) := by
  have h4 := MM4
  rw [show x + P25 - y = (x - y) + P25 by omega, Nat.add_mod_right, Nat.mod_eq_of_lt (by omega), show x + MM ^ 4 - y = (x - y) + MM ^ 4 by omega, textV_add]
attribute [local irreducible] Calls
section
variable (a b : ByteArray) (w : World)
set_option maxHeartbeats 1000000 in
set_option maxRecDepth 100000 in
theorem Sub_any (hab : a.size = 32 ∧ b.size = 32) : Calls Try.prog 20 #[.string a, .string b] w fun e w' => e = .returned (.tuple #[.string (textV ((leV a % P25 + P25 - leV b % P25) % P25)), .int .i64 0]) ∧ Below w.heap.size w w' := by
  have hm := may2_any a b
  rw [if_pos hab] at hm
  have HM := Lib.hid hm
  have HA : Aside0 (a.size = 32) := ⟨hab.1⟩
  have hl := Aside0.mk (leV_lt4 a HA.out)
  have HA2 : Aside0 (b.size = 32) := ⟨hab.2⟩
  have hl2 := Aside0.mk (leV_lt4 b HA2.out)
  clear hm hab
  have hu67 := Try.underlying67
  go_enter Try.func20, Try.ntmps20
  have hx := modP_lt (leV a)
  have hy := modP_lt (leV b)
  have hLs := fun W => less_any (leV a % P25) (leV b % P25) W hy
  rw [bw_4 _ _ hx hy] at hLs
  have hp := P25_pos
  have hxp := Nat.mod_lt (leV a) (show 0 < P25 by omega)
  have hyp := Nat.mod_lt (leV b) (show 0 < P25 by omega)
  have h4 := MM4
  by_cases hlt : leV a % P25 < leV b % P25
  · rw [if_pos hlt] at hLs
    have HLs := Lib.hid hLs
    have HR : Aside0 (textV (leV a % P25 + MM ^ 4 - leV b % P25 + P25) = textV ((leV a % P25 + P25 - leV b % P25) % P25)) := ⟨sub_text1 hxp hyp hlt⟩
    clear hLs hx hy hp hxp hyp h4 hlt
    go_wp2_with (first | (go_at_call 54; refine (HM.out _ _ (heap_alloc_new _ _)).mono ?_; rintro e w1 ⟨rfl, hb⟩; have HB := Aside0.mk (below_step (below_alloc (Below.refl _ _) _) hb); clear hb) | (go_at_call_of 55 (Value.string a); refine (of_any a HA.out _).mono ?_; rintro e w1 ⟨rfl, hb⟩; replace HB := Aside0.mk (below_step HB.out hb); clear hb) | (go_at_call_of 55 (Value.string b); refine (of_any b HA2.out _).mono ?_; rintro e w1 ⟨rfl, hb⟩; replace HB := Aside0.mk (below_step HB.out hb); clear hb) | (go_at_call_of 56 (Value.agg (aggN (leV a))); refine (left0_any (leV a) _ hl.out).mono ?_; rintro e w1 ⟨rfl, hb⟩; replace HB := Aside0.mk (below_step HB.out hb); clear hb) | (go_at_call_of 56 (Value.agg (aggN (leV b))); refine (left0_any (leV b) _ hl2.out).mono ?_; rintro e w1 ⟨rfl, hb⟩; replace HB := Aside0.mk (below_step HB.out hb); clear hb) | (go_at_call 63; refine (HLs.out _).mono ?_; rintro e w5 ⟨rfl, hb⟩; replace HB := Aside0.mk (below_step HB.out hb); clear hb; have HO := (own_of_below HB.out).alloc (.cells (aggN (leV a % P25 + MM ^ 4 - leV b % P25)) 67); have hz := HO.lt 0 rfl; unfold aggN))
    refine kstart (n := 7) (ds := [6]) #[false, false, false, false, false, false, false] (by kernel_rfl) rfl rfl ?_
    refine ktake (i := 0) (N := (some 29)) (v := ?_) (a' := ?_) #[true, false, false, false, false, false, false] rfl rfl (by kernel_rfl) (fun _ _ _ h => h) (Or.inl ⟨by rfl, fun w1 hg => ?_⟩) ?_ ?_  -- 0 load 67 (tmp 7)
    rotate_left
    · refine RunG_value ?_; have c0 := (HO.up hg).cell 0 rfl; unfold aggN at c0; go_simp; with_reducible rfl
    rotate_left
    · simp only [Act.put, List.setIfInBounds_toArray, List.set_cons_zero, List.set_cons_succ, i64_w, i32_w]; rfl
    refine ktake (i := 1) (N := (some 30)) (v := .agg (aggN P25)) (a' := ?_) #[true, true, false, false, false, false, false] rfl rfl (by kernel_rfl) (fun _ _ _ h => h) (Or.inl ⟨by rfl, fun w1 hg => RunG_call Try.func64 (by kernel_rfl) rfl [] rfl (by rfl) (prime_any _)⟩) ?_ ?_  -- 1 call { callee := value (func 64), args := #[], argTypes := #[] }
    rotate_left
    · simp only [Act.put, List.setIfInBounds_toArray, List.set_cons_zero, List.set_cons_succ, i64_w, i32_w]; rfl
    refine ktake (i := 2) (N := (some 31)) (v := .tuple #[.agg (aggN (leV a % P25 + MM ^ 4 - leV b % P25 + P25)), .int .u64 (cy (leV a % P25 + MM ^ 4 - leV b % P25) P25 4 : Nat)]) (a' := ?_) #[true, true, true, false, false, false, false] rfl rfl (by kernel_rfl) (fun _ _ _ h => h) (Or.inl ⟨by rfl, fun w1 hg => RunG_call Try.func62 (by kernel_rfl) rfl [.agg (aggN (leV a % P25 + MM ^ 4 - leV b % P25)), .agg (aggN P25)] rfl (by rfl) (plus_any (leV a % P25 + MM ^ 4 - leV b % P25) P25 _)⟩) ?_ ?_  -- 2 call { callee := value (func 62), args := #[tmp 29, tmp 30], argTypes := #[67, 67] }
    rotate_left
    · simp only [Act.put, List.setIfInBounds_toArray, List.set_cons_zero, List.set_cons_succ, i64_w, i32_w]; rfl
    refine kpure (i := 3) (N := (some 28)) (v := ?_) (a' := ?_) #[true, true, true, true, false, false, false] rfl rfl (by kernel_rfl) (fun _ _ _ h => h) (Or.inl ⟨by rfl, ?_⟩) ?_ ?_  -- 3 move (tmp 31)
    rotate_left
    · intro w'; go_simp; with_reducible rfl
    rotate_left
    · simp only [Act.put, List.setIfInBounds_toArray, List.set_cons_zero, List.set_cons_succ, i64_w, i32_w]; rfl
    refine kpure (i := 4) (N := (some 32)) (v := ?_) (a' := ?_) #[true, true, true, true, true, false, false] rfl rfl (by kernel_rfl) (fun _ _ _ h => h) (Or.inl ⟨by rfl, ?_⟩) ?_ ?_  -- 4 extract (tmp 28) 0
    rotate_left
    · intro w'; go_simp; with_reducible rfl
    rotate_left
    · simp only [Act.put, List.setIfInBounds_toArray, List.set_cons_zero, List.set_cons_succ, i64_w, i32_w]; rfl
    refine kpure (i := 5) (N := (some 33)) (v := ?_) (a' := ?_) #[true, true, true, true, true, true, false] rfl rfl (by kernel_rfl) (fun _ _ _ h => h) (Or.inl ⟨by rfl, ?_⟩) ?_ ?_  -- 5 extract (tmp 28) 1
    rotate_left
    · intro w'; go_simp; with_reducible rfl
    rotate_left
    · simp only [Act.put, List.setIfInBounds_toArray, List.set_cons_zero, List.set_cons_succ, i64_w, i32_w]; rfl
    refine kone (i := 6) (N := none) #[true, true, true, true, true, true, true] rfl rfl (by kernel_rfl) (fun w1 hg K hK => ?_)  -- 6 store 67 (tmp 7) (tmp 32)
    rw [if_pos (by rfl)]
    replace HO := HO.up hg
    have c1 := HO.cell 0 rfl
    have f1 := HO.frozen 0 rfl
    unfold aggN at c1 ⊢
    go_simp
    refine hK _ _ (fun h => absurd (by decide) h) ?_
    replace HO : Own w [(w5.heap.size, .cells (aggN (leV a % P25 + MM ^ 4 - leV b % P25 + P25)) 67 (0, 0))] _ := (((HO.set 0 rfl 0 _).set 0 rfl 1 _).set 0 rfl 2 _).set 0 rfl 3 _
    clear c1 f1 hg K hK
    revert HO
    generalize (((w1.setCell _ _).setCell _ _).setCell _ _).setCell _ _ = wb
    intro HO
    refine kdone (by kernel_rfl) (fun w1 hg => ?_)
    replace HO := HO.up hg
    have c0 := HO.cell 0 rfl
    unfold aggN at c0
    have HT := Lib.hid (fun W => text_any (leV a % P25 + MM ^ 4 - leV b % P25 + P25) W)
    rw [HR.out] at HT
    unfold aggN at HT
    go_wp2_with (go_at_call 58; refine (HT.out _).mono ?_; rintro e w1 ⟨rfl, hb⟩; replace HO := HO.up hb; clear hb c0)
    go_ret2
    exact ⟨rfl, HO.below⟩
  · rw [if_neg hlt] at hLs
    have HLs := Lib.hid hLs
    have HR : Aside0 (textV (leV a % P25 + MM ^ 4 - leV b % P25) = textV ((leV a % P25 + P25 - leV b % P25) % P25)) := ⟨sub_text2 hxp hyp hlt⟩
    clear hLs hx hy hp hxp hyp h4 hlt
    go_wp2_with (first | (go_at_call 54; refine (HM.out _ _ (heap_alloc_new _ _)).mono ?_; rintro e w1 ⟨rfl, hb⟩; have HB := Aside0.mk (below_step (below_alloc (Below.refl _ _) _) hb); clear hb) | (go_at_call_of 55 (Value.string a); refine (of_any a HA.out _).mono ?_; rintro e w1 ⟨rfl, hb⟩; replace HB := Aside0.mk (below_step HB.out hb); clear hb) | (go_at_call_of 55 (Value.string b); refine (of_any b HA2.out _).mono ?_; rintro e w1 ⟨rfl, hb⟩; replace HB := Aside0.mk (below_step HB.out hb); clear hb) | (go_at_call_of 56 (Value.agg (aggN (leV a))); refine (left0_any (leV a) _ hl.out).mono ?_; rintro e w1 ⟨rfl, hb⟩; replace HB := Aside0.mk (below_step HB.out hb); clear hb) | (go_at_call_of 56 (Value.agg (aggN (leV b))); refine (left0_any (leV b) _ hl2.out).mono ?_; rintro e w1 ⟨rfl, hb⟩; replace HB := Aside0.mk (below_step HB.out hb); clear hb) | (go_at_call 63; refine (HLs.out _).mono ?_; rintro e w5 ⟨rfl, hb⟩; replace HB := Aside0.mk (below_step HB.out hb); clear hb; have HO := (own_of_below HB.out).alloc (.cells (aggN (leV a % P25 + MM ^ 4 - leV b % P25)) 67); have hz := HO.lt 0 rfl; unfold aggN) | (go_at_call 58; refine (text_any (leV a % P25 + MM ^ 4 - leV b % P25) _).mono ?_; rw [HR.out]; rintro e w6 ⟨rfl, hb⟩; replace HO := HO.up hb; clear hb))
    go_ret2
    exact ⟨rfl, HO.below⟩
set_option maxHeartbeats 1000000 in
theorem Sub_bad (hab : ¬ (a.size = 32 ∧ b.size = 32)) : Calls Try.prog 20 #[.string a, .string b] w fun e w' => e = .returned (.tuple #[.string ⟨#[]⟩, .int .i64 2]) ∧ Below w.heap.size w w' := by
  have hm := may2_any a b
  rw [if_neg hab] at hm
  have HM := Lib.hid hm
  clear hm hab
  go_enter Try.func20, Try.ntmps20
  go_wp2_with (go_at_call 54; refine (HM.out _ _ (heap_alloc_new _ _)).mono ?_; rintro e w1 ⟨rfl, hb⟩; have HB := Aside0.mk (below_step (below_alloc (Below.refl _ _) _) hb); clear hb)
  go_ret2
  exact ⟨rfl, HB.out⟩
end
end Go.Proofs.Ytdmpnogjpgoaaaa

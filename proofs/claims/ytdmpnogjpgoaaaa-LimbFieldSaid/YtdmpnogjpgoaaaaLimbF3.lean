import Derived.Test.YtdmpnogjpgoaaaaLimbF2
set_option linter.unusedSimpArgs false
namespace Go.Proofs.Ytdmpnogjpgoaaaa
open Go.RowKit Go.Proofs.YtdmpnogjpgoaaaaW.PrintWords Go.Proofs.YtdmpnogjpgoaaaaW.PrintLast Go.Proofs.YtdmpnogjpgoaaaaW.PrintMore
attribute [local go_sem] max2_int min2_int max_two min_two
theorem refSized3 (x y z : ByteArray) (w : World) (g : Nat) (h : w.heap[g]? = some (.cells #[.string x, .string y, .string z] 9 (0, 0))) (b : Bool) (hb : [x, y, z].all (fun x => x.size == 32) = b) :
    Calls Try.prog 22 #[.slice (some ⟨g, 0, none⟩) 3 3] w fun e w' => e = .returned (.bool b) ∧ Below w.heap.size w w' := hb ▸ refSized [x, y, z] (by simp) w g h
theorem small0 (w : World) : Calls Try.prog 27 #[.int .u8 0] w fun e w' => e = .returned (.string (T 0)) ∧ Below w.heap.size w w' := by
  have := small_any 0 (by omega) w
  rw [T_zero] at this
  exact this
theorem small1 (w : World) : Calls Try.prog 27 #[.int .u8 1] w fun e w' => e = .returned (.string (T 1)) ∧ Below w.heap.size w w' := by
  have := small_any 1 (by omega) w
  rw [T_one] at this
  exact this
/-- what a call gives is the same number's text by another name -/
theorem via {f : Nat} {args : Array Value} {w : World} {x y : Nat} (h : Calls Try.prog f args w fun e w' => e = .returned (.tuple #[.string (T x), .int .i64 0]) ∧ Below w.heap.size w w') (e : T x = T y) : Calls Try.prog f args w fun e w' => e = .returned (.tuple #[.string (T y), .int .i64 0]) ∧ Below w.heap.size w w' := e ▸ h
theorem toList_inj' {a b : ByteArray} (h : a.toList = b.toList) : a = b := by
  rw [ByteArray.toList_eq, ByteArray.toList_eq] at h
  cases a; cases b; simp only at h; rw [Array.toList_inj.1 h]
attribute [local irreducible] Calls
set_option maxHeartbeats 8000000 in
set_option maxRecDepth 100000 in
theorem LimbField_yes (a b c : ByteArray) (W : World) (ha : a.size = 32) (hb : b.size = 32) (hc : c.size = 32) : Calls Try.prog 5 #[.string a, .string b, .string c] W fun e W' => e = .returned (.bool true) ∧ Below W.heap.size W W' := by
  have HA := Aside0.mk (isT_of ha)
  have HB0 := Aside0.mk (isT_of hb)
  have HC := Aside0.mk (isT_of hc)
  clear ha hb hc
  by_cases hz : leV a % P25 = 0
  · have HOwn : Aside0 (T (leV a) = T 0) := ⟨T_congr (by rw [hz, Nat.zero_mod])⟩
    have HOne : Aside0 (T (leV a * (leV a % P25) ^ (P25 - 2)) = T 0) := ⟨T_congr (by rw [Nat.mul_mod, hz, Nat.zero_mul, Nat.zero_mod])⟩
    clear hz
    go_enter Try.func5, Try.ntmps5
    go_wp2_with fail
    refine (refSized3 a b c _ _ (heap_alloc_new _ _) true (by simp [HA.out.size, HB0.out.size, HC.out.size])).mono ?_
    rintro e w1 ⟨rfl, hb⟩
    have HB := Aside0.mk (below_step (below_alloc (Below.refl _ _) _) hb)
    clear hb
    go_wp2_with fail
    refine (told_any _ _).mono ?_
    rintro e w2 ⟨gb, rfl, hbb, hb⟩
    have HBB := Aside0.mk hbb
    have HAA := Aside0.mk (blk_below (heap_alloc_new _ _) hb)
    replace HB := Aside0.mk (below_step (below_alloc HB.out _) hb)
    clear hb hbb
    generalize w1.heap.size = ga at *
    go_wp2_with fail
    refine (via (NormT _ HA.out) HOwn.out).mono ?_
    rintro e w1 ⟨rfl, hb⟩
    replace HB := Aside0.mk (below_step HB.out hb)
    replace HBB := Aside0.mk (blk_below HBB.out hb)
    replace HAA := Aside0.mk (blk_below HAA.out hb)
    clear hb
    go_wp2_with fail
    refine (told1_any (T (0)) gb ga _ (T_size _) HBB.out HAA.out).mono ?_
    rintro e w1 ⟨rfl, hb⟩
    replace HB := Aside0.mk (below_step HB.out hb)
    replace HBB := Aside0.mk (blk_below HBB.out hb)
    replace HAA := Aside0.mk (blk_below HAA.out hb)
    clear hb
    go_wp2_with fail
    refine (AddT _ HA.out HB0.out).mono ?_
    rintro e w1 ⟨rfl, hb⟩
    replace HB := Aside0.mk (below_step HB.out hb)
    replace HBB := Aside0.mk (blk_below HBB.out hb)
    replace HAA := Aside0.mk (blk_below HAA.out hb)
    clear hb
    go_wp2_with fail
    refine (told1_any (T (leV a + leV b)) gb ga _ (T_size _) HBB.out HAA.out).mono ?_
    rintro e w1 ⟨rfl, hb⟩
    replace HB := Aside0.mk (below_step HB.out hb)
    replace HBB := Aside0.mk (blk_below HBB.out hb)
    replace HAA := Aside0.mk (blk_below HAA.out hb)
    clear hb
    go_wp2_with fail
    refine (MulT _ HA.out HB0.out).mono ?_
    rintro e w1 ⟨rfl, hb⟩
    replace HB := Aside0.mk (below_step HB.out hb)
    replace HBB := Aside0.mk (blk_below HBB.out hb)
    replace HAA := Aside0.mk (blk_below HAA.out hb)
    clear hb
    go_wp2_with fail
    refine (told1_any (T (leV a * leV b)) gb ga _ (T_size _) HBB.out HAA.out).mono ?_
    rintro e w1 ⟨rfl, hb⟩
    replace HB := Aside0.mk (below_step HB.out hb)
    replace HBB := Aside0.mk (blk_below HBB.out hb)
    replace HAA := Aside0.mk (blk_below HAA.out hb)
    clear hb
    go_wp2_with fail
    refine (via (SubT _ (isT _) HB0.out) ((sub_back _ _).trans HOwn.out)).mono ?_
    rintro e w1 ⟨rfl, hb⟩
    replace HB := Aside0.mk (below_step HB.out hb)
    replace HBB := Aside0.mk (blk_below HBB.out hb)
    replace HAA := Aside0.mk (blk_below HAA.out hb)
    clear hb
    go_wp2_with fail
    refine (told1_any (T (0)) gb ga _ (T_size _) HBB.out HAA.out).mono ?_
    rintro e w1 ⟨rfl, hb⟩
    replace HB := Aside0.mk (below_step HB.out hb)
    replace HBB := Aside0.mk (blk_below HBB.out hb)
    replace HAA := Aside0.mk (blk_below HAA.out hb)
    clear hb
    go_wp2_with fail
    refine (via (AddT _ HB0.out HA.out) (congrArg T (Nat.add_comm _ _))).mono ?_
    rintro e w1 ⟨rfl, hb⟩
    replace HB := Aside0.mk (below_step HB.out hb)
    replace HBB := Aside0.mk (blk_below HBB.out hb)
    replace HAA := Aside0.mk (blk_below HAA.out hb)
    clear hb
    go_wp2_with fail
    refine (told1_any (T (leV a + leV b)) gb ga _ (T_size _) HBB.out HAA.out).mono ?_
    rintro e w1 ⟨rfl, hb⟩
    replace HB := Aside0.mk (below_step HB.out hb)
    replace HBB := Aside0.mk (blk_below HBB.out hb)
    replace HAA := Aside0.mk (blk_below HAA.out hb)
    clear hb
    go_wp2_with fail
    refine (via (MulT _ HB0.out HA.out) (congrArg T (Nat.mul_comm _ _))).mono ?_
    rintro e w1 ⟨rfl, hb⟩
    replace HB := Aside0.mk (below_step HB.out hb)
    replace HBB := Aside0.mk (blk_below HBB.out hb)
    replace HAA := Aside0.mk (blk_below HAA.out hb)
    clear hb
    go_wp2_with fail
    refine (told1_any (T (leV a * leV b)) gb ga _ (T_size _) HBB.out HAA.out).mono ?_
    rintro e w1 ⟨rfl, hb⟩
    replace HB := Aside0.mk (below_step HB.out hb)
    replace HBB := Aside0.mk (blk_below HBB.out hb)
    replace HAA := Aside0.mk (blk_below HAA.out hb)
    clear hb
    go_wp2_with fail
    refine (AddT _ (isT _) HC.out).mono ?_
    rintro e w1 ⟨rfl, hb⟩
    replace HB := Aside0.mk (below_step HB.out hb)
    replace HBB := Aside0.mk (blk_below HBB.out hb)
    replace HAA := Aside0.mk (blk_below HAA.out hb)
    clear hb
    go_wp2_with fail
    refine (told1_any (T (leV a + leV b + leV c)) gb ga _ (T_size _) HBB.out HAA.out).mono ?_
    rintro e w1 ⟨rfl, hb⟩
    replace HB := Aside0.mk (below_step HB.out hb)
    replace HBB := Aside0.mk (blk_below HBB.out hb)
    replace HAA := Aside0.mk (blk_below HAA.out hb)
    clear hb
    go_wp2_with fail
    refine (AddT _ HB0.out HC.out).mono ?_
    rintro e w1 ⟨rfl, hb⟩
    replace HB := Aside0.mk (below_step HB.out hb)
    replace HBB := Aside0.mk (blk_below HBB.out hb)
    replace HAA := Aside0.mk (blk_below HAA.out hb)
    clear hb
    go_wp2_with fail
    refine (told1_any (T (leV b + leV c)) gb ga _ (T_size _) HBB.out HAA.out).mono ?_
    rintro e w1 ⟨rfl, hb⟩
    replace HB := Aside0.mk (below_step HB.out hb)
    replace HBB := Aside0.mk (blk_below HBB.out hb)
    replace HAA := Aside0.mk (blk_below HAA.out hb)
    clear hb
    go_wp2_with fail
    refine (via (AddT _ HA.out (isT _)) (congrArg T (Nat.add_assoc _ _ _).symm)).mono ?_
    rintro e w1 ⟨rfl, hb⟩
    replace HB := Aside0.mk (below_step HB.out hb)
    replace HBB := Aside0.mk (blk_below HBB.out hb)
    replace HAA := Aside0.mk (blk_below HAA.out hb)
    clear hb
    go_wp2_with fail
    refine (told1_any (T (leV a + leV b + leV c)) gb ga _ (T_size _) HBB.out HAA.out).mono ?_
    rintro e w1 ⟨rfl, hb⟩
    replace HB := Aside0.mk (below_step HB.out hb)
    replace HBB := Aside0.mk (blk_below HBB.out hb)
    replace HAA := Aside0.mk (blk_below HAA.out hb)
    clear hb
    go_wp2_with fail
    refine (MulT _ (isT _) HC.out).mono ?_
    rintro e w1 ⟨rfl, hb⟩
    replace HB := Aside0.mk (below_step HB.out hb)
    replace HBB := Aside0.mk (blk_below HBB.out hb)
    replace HAA := Aside0.mk (blk_below HAA.out hb)
    clear hb
    go_wp2_with fail
    refine (told1_any (T (leV a * leV b * leV c)) gb ga _ (T_size _) HBB.out HAA.out).mono ?_
    rintro e w1 ⟨rfl, hb⟩
    replace HB := Aside0.mk (below_step HB.out hb)
    replace HBB := Aside0.mk (blk_below HBB.out hb)
    replace HAA := Aside0.mk (blk_below HAA.out hb)
    clear hb
    go_wp2_with fail
    refine (MulT _ HB0.out HC.out).mono ?_
    rintro e w1 ⟨rfl, hb⟩
    replace HB := Aside0.mk (below_step HB.out hb)
    replace HBB := Aside0.mk (blk_below HBB.out hb)
    replace HAA := Aside0.mk (blk_below HAA.out hb)
    clear hb
    go_wp2_with fail
    refine (told1_any (T (leV b * leV c)) gb ga _ (T_size _) HBB.out HAA.out).mono ?_
    rintro e w1 ⟨rfl, hb⟩
    replace HB := Aside0.mk (below_step HB.out hb)
    replace HBB := Aside0.mk (blk_below HBB.out hb)
    replace HAA := Aside0.mk (blk_below HAA.out hb)
    clear hb
    go_wp2_with fail
    refine (via (MulT _ HA.out (isT _)) (congrArg T (Nat.mul_assoc _ _ _).symm)).mono ?_
    rintro e w1 ⟨rfl, hb⟩
    replace HB := Aside0.mk (below_step HB.out hb)
    replace HBB := Aside0.mk (blk_below HBB.out hb)
    replace HAA := Aside0.mk (blk_below HAA.out hb)
    clear hb
    go_wp2_with fail
    refine (told1_any (T (leV a * leV b * leV c)) gb ga _ (T_size _) HBB.out HAA.out).mono ?_
    rintro e w1 ⟨rfl, hb⟩
    replace HB := Aside0.mk (below_step HB.out hb)
    replace HBB := Aside0.mk (blk_below HBB.out hb)
    replace HAA := Aside0.mk (blk_below HAA.out hb)
    clear hb
    go_wp2_with fail
    refine (MulT _ HC.out (isT _)).mono ?_
    rintro e w1 ⟨rfl, hb⟩
    replace HB := Aside0.mk (below_step HB.out hb)
    replace HBB := Aside0.mk (blk_below HBB.out hb)
    replace HAA := Aside0.mk (blk_below HAA.out hb)
    clear hb
    go_wp2_with fail
    refine (told1_any (T (leV c * (leV a + leV b))) gb ga _ (T_size _) HBB.out HAA.out).mono ?_
    rintro e w1 ⟨rfl, hb⟩
    replace HB := Aside0.mk (below_step HB.out hb)
    replace HBB := Aside0.mk (blk_below HBB.out hb)
    replace HAA := Aside0.mk (blk_below HAA.out hb)
    clear hb
    go_wp2_with fail
    refine (MulT _ HC.out HA.out).mono ?_
    rintro e w1 ⟨rfl, hb⟩
    replace HB := Aside0.mk (below_step HB.out hb)
    replace HBB := Aside0.mk (blk_below HBB.out hb)
    replace HAA := Aside0.mk (blk_below HAA.out hb)
    clear hb
    go_wp2_with fail
    refine (told1_any (T (leV c * leV a)) gb ga _ (T_size _) HBB.out HAA.out).mono ?_
    rintro e w1 ⟨rfl, hb⟩
    replace HB := Aside0.mk (below_step HB.out hb)
    replace HBB := Aside0.mk (blk_below HBB.out hb)
    replace HAA := Aside0.mk (blk_below HAA.out hb)
    clear hb
    go_wp2_with fail
    refine (MulT _ HC.out HB0.out).mono ?_
    rintro e w1 ⟨rfl, hb⟩
    replace HB := Aside0.mk (below_step HB.out hb)
    replace HBB := Aside0.mk (blk_below HBB.out hb)
    replace HAA := Aside0.mk (blk_below HAA.out hb)
    clear hb
    go_wp2_with fail
    refine (told1_any (T (leV c * leV b)) gb ga _ (T_size _) HBB.out HAA.out).mono ?_
    rintro e w1 ⟨rfl, hb⟩
    replace HB := Aside0.mk (below_step HB.out hb)
    replace HBB := Aside0.mk (blk_below HBB.out hb)
    replace HAA := Aside0.mk (blk_below HAA.out hb)
    clear hb
    go_wp2_with fail
    refine (via (AddT _ (isT _) (isT _)) (congrArg T (Nat.mul_add _ _ _).symm)).mono ?_
    rintro e w1 ⟨rfl, hb⟩
    replace HB := Aside0.mk (below_step HB.out hb)
    replace HBB := Aside0.mk (blk_below HBB.out hb)
    replace HAA := Aside0.mk (blk_below HAA.out hb)
    clear hb
    go_wp2_with fail
    refine (told1_any (T (leV c * (leV a + leV b))) gb ga _ (T_size _) HBB.out HAA.out).mono ?_
    rintro e w1 ⟨rfl, hb⟩
    replace HB := Aside0.mk (below_step HB.out hb)
    replace HBB := Aside0.mk (blk_below HBB.out hb)
    replace HAA := Aside0.mk (blk_below HAA.out hb)
    clear hb
    go_wp2_with fail
    refine (InvT _ HA.out).mono ?_
    rintro e w1 ⟨rfl, hb⟩
    replace HB := Aside0.mk (below_step HB.out hb)
    replace HBB := Aside0.mk (blk_below HBB.out hb)
    replace HAA := Aside0.mk (blk_below HAA.out hb)
    clear hb
    go_wp2_with fail
    refine (told1_any (T ((leV a % P25) ^ (P25 - 2))) gb ga _ (T_size _) HBB.out HAA.out).mono ?_
    rintro e w1 ⟨rfl, hb⟩
    replace HB := Aside0.mk (below_step HB.out hb)
    replace HBB := Aside0.mk (blk_below HBB.out hb)
    replace HAA := Aside0.mk (blk_below HAA.out hb)
    clear hb
    go_wp2_with fail
    refine (via (MulT _ HA.out (isT _)) HOne.out).mono ?_
    rintro e w1 ⟨rfl, hb⟩
    replace HB := Aside0.mk (below_step HB.out hb)
    replace HBB := Aside0.mk (blk_below HBB.out hb)
    replace HAA := Aside0.mk (blk_below HAA.out hb)
    clear hb
    go_wp2_with fail
    refine (told1_any (T (0)) gb ga _ (T_size _) HBB.out HAA.out).mono ?_
    rintro e w1 ⟨rfl, hb⟩
    replace HB := Aside0.mk (below_step HB.out hb)
    replace HBB := Aside0.mk (blk_below HBB.out hb)
    replace HAA := Aside0.mk (blk_below HAA.out hb)
    clear hb
    go_wp2_with fail
    refine (alive01 _).mono ?_
    rintro e w1 ⟨rfl, hb⟩
    replace HB := Aside0.mk (below_step HB.out hb)
    replace HBB := Aside0.mk (blk_below HBB.out hb)
    replace HAA := Aside0.mk (blk_below HAA.out hb)
    clear hb
    have cA := blk_cell HAA.out 0
    go_wp2_with fail
    refine (via (NormT _ (isT _)) rfl).mono ?_
    rintro e w1 ⟨rfl, hb⟩
    replace HB := Aside0.mk (below_step HB.out hb)
    replace HBB := Aside0.mk (blk_below HBB.out hb)
    replace HAA := Aside0.mk (blk_below HAA.out hb)
    clear hb
    go_wp2_with fail
    refine (told1_any (T (0)) gb ga _ (T_size _) HBB.out HAA.out).mono ?_
    rintro e w1 ⟨rfl, hb⟩
    replace HB := Aside0.mk (below_step HB.out hb)
    replace HBB := Aside0.mk (blk_below HBB.out hb)
    replace HAA := Aside0.mk (blk_below HAA.out hb)
    clear hb
    go_wp2_with fail
    refine (small0 _).mono ?_
    rintro e w1 ⟨rfl, hb⟩
    replace HB := Aside0.mk (below_step HB.out hb)
    replace HBB := Aside0.mk (blk_below HBB.out hb)
    replace HAA := Aside0.mk (blk_below HAA.out hb)
    clear hb
    go_wp2_with fail
    refine (small0 _).mono ?_
    rintro e w1 ⟨rfl, hb⟩
    replace HB := Aside0.mk (below_step HB.out hb)
    replace HBB := Aside0.mk (blk_below HBB.out hb)
    replace HAA := Aside0.mk (blk_below HAA.out hb)
    clear hb
    go_wp2
    go_ret
    exact ⟨rfl, HB.out⟩
  · have HOne : Aside0 (T (leV a * (leV a % P25) ^ (P25 - 2)) = T 1) := ⟨T_congr (by rw [inv_mul _ hz]; decide +kernel)⟩
    have hne : T (leV a) ≠ T 0 := fun h => hz (by have := T_inj h; rw [Nat.zero_mod] at this; exact this)
    have n1 : ((T (leV a)).toList == (T 0).toList) = false := beq_eq_false_iff_ne.mpr (fun h => hne (toList_inj' h))
    have n2 : ((T (leV a)).toList != (T 0).toList) = true := bne_iff_ne.mpr (fun h => hne (toList_inj' h))
    clear hz hne
    go_enter Try.func5, Try.ntmps5
    go_wp2_with fail
    refine (refSized3 a b c _ _ (heap_alloc_new _ _) true (by simp [HA.out.size, HB0.out.size, HC.out.size])).mono ?_
    rintro e w1 ⟨rfl, hb⟩
    have HB := Aside0.mk (below_step (below_alloc (Below.refl _ _) _) hb)
    clear hb
    go_wp2_with fail
    refine (told_any _ _).mono ?_
    rintro e w2 ⟨gb, rfl, hbb, hb⟩
    have HBB := Aside0.mk hbb
    have HAA := Aside0.mk (blk_below (heap_alloc_new _ _) hb)
    replace HB := Aside0.mk (below_step (below_alloc HB.out _) hb)
    clear hb hbb
    generalize w1.heap.size = ga at *
    go_wp2_with fail
    refine (NormT _ HA.out).mono ?_
    rintro e w1 ⟨rfl, hb⟩
    replace HB := Aside0.mk (below_step HB.out hb)
    replace HBB := Aside0.mk (blk_below HBB.out hb)
    replace HAA := Aside0.mk (blk_below HAA.out hb)
    clear hb
    go_wp2_with fail
    refine (told1_any (T (leV a)) gb ga _ (T_size _) HBB.out HAA.out).mono ?_
    rintro e w1 ⟨rfl, hb⟩
    replace HB := Aside0.mk (below_step HB.out hb)
    replace HBB := Aside0.mk (blk_below HBB.out hb)
    replace HAA := Aside0.mk (blk_below HAA.out hb)
    clear hb
    go_wp2_with fail
    refine (AddT _ HA.out HB0.out).mono ?_
    rintro e w1 ⟨rfl, hb⟩
    replace HB := Aside0.mk (below_step HB.out hb)
    replace HBB := Aside0.mk (blk_below HBB.out hb)
    replace HAA := Aside0.mk (blk_below HAA.out hb)
    clear hb
    go_wp2_with fail
    refine (told1_any (T (leV a + leV b)) gb ga _ (T_size _) HBB.out HAA.out).mono ?_
    rintro e w1 ⟨rfl, hb⟩
    replace HB := Aside0.mk (below_step HB.out hb)
    replace HBB := Aside0.mk (blk_below HBB.out hb)
    replace HAA := Aside0.mk (blk_below HAA.out hb)
    clear hb
    go_wp2_with fail
    refine (MulT _ HA.out HB0.out).mono ?_
    rintro e w1 ⟨rfl, hb⟩
    replace HB := Aside0.mk (below_step HB.out hb)
    replace HBB := Aside0.mk (blk_below HBB.out hb)
    replace HAA := Aside0.mk (blk_below HAA.out hb)
    clear hb
    go_wp2_with fail
    refine (told1_any (T (leV a * leV b)) gb ga _ (T_size _) HBB.out HAA.out).mono ?_
    rintro e w1 ⟨rfl, hb⟩
    replace HB := Aside0.mk (below_step HB.out hb)
    replace HBB := Aside0.mk (blk_below HBB.out hb)
    replace HAA := Aside0.mk (blk_below HAA.out hb)
    clear hb
    go_wp2_with fail
    refine (via (SubT _ (isT _) HB0.out) (sub_back _ _)).mono ?_
    rintro e w1 ⟨rfl, hb⟩
    replace HB := Aside0.mk (below_step HB.out hb)
    replace HBB := Aside0.mk (blk_below HBB.out hb)
    replace HAA := Aside0.mk (blk_below HAA.out hb)
    clear hb
    go_wp2_with fail
    refine (told1_any (T (leV a)) gb ga _ (T_size _) HBB.out HAA.out).mono ?_
    rintro e w1 ⟨rfl, hb⟩
    replace HB := Aside0.mk (below_step HB.out hb)
    replace HBB := Aside0.mk (blk_below HBB.out hb)
    replace HAA := Aside0.mk (blk_below HAA.out hb)
    clear hb
    go_wp2_with fail
    refine (via (AddT _ HB0.out HA.out) (congrArg T (Nat.add_comm _ _))).mono ?_
    rintro e w1 ⟨rfl, hb⟩
    replace HB := Aside0.mk (below_step HB.out hb)
    replace HBB := Aside0.mk (blk_below HBB.out hb)
    replace HAA := Aside0.mk (blk_below HAA.out hb)
    clear hb
    go_wp2_with fail
    refine (told1_any (T (leV a + leV b)) gb ga _ (T_size _) HBB.out HAA.out).mono ?_
    rintro e w1 ⟨rfl, hb⟩
    replace HB := Aside0.mk (below_step HB.out hb)
    replace HBB := Aside0.mk (blk_below HBB.out hb)
    replace HAA := Aside0.mk (blk_below HAA.out hb)
    clear hb
    go_wp2_with fail
    refine (via (MulT _ HB0.out HA.out) (congrArg T (Nat.mul_comm _ _))).mono ?_
    rintro e w1 ⟨rfl, hb⟩
    replace HB := Aside0.mk (below_step HB.out hb)
    replace HBB := Aside0.mk (blk_below HBB.out hb)
    replace HAA := Aside0.mk (blk_below HAA.out hb)
    clear hb
    go_wp2_with fail
    refine (told1_any (T (leV a * leV b)) gb ga _ (T_size _) HBB.out HAA.out).mono ?_
    rintro e w1 ⟨rfl, hb⟩
    replace HB := Aside0.mk (below_step HB.out hb)
    replace HBB := Aside0.mk (blk_below HBB.out hb)
    replace HAA := Aside0.mk (blk_below HAA.out hb)
    clear hb
    go_wp2_with fail
    refine (AddT _ (isT _) HC.out).mono ?_
    rintro e w1 ⟨rfl, hb⟩
    replace HB := Aside0.mk (below_step HB.out hb)
    replace HBB := Aside0.mk (blk_below HBB.out hb)
    replace HAA := Aside0.mk (blk_below HAA.out hb)
    clear hb
    go_wp2_with fail
    refine (told1_any (T (leV a + leV b + leV c)) gb ga _ (T_size _) HBB.out HAA.out).mono ?_
    rintro e w1 ⟨rfl, hb⟩
    replace HB := Aside0.mk (below_step HB.out hb)
    replace HBB := Aside0.mk (blk_below HBB.out hb)
    replace HAA := Aside0.mk (blk_below HAA.out hb)
    clear hb
    go_wp2_with fail
    refine (AddT _ HB0.out HC.out).mono ?_
    rintro e w1 ⟨rfl, hb⟩
    replace HB := Aside0.mk (below_step HB.out hb)
    replace HBB := Aside0.mk (blk_below HBB.out hb)
    replace HAA := Aside0.mk (blk_below HAA.out hb)
    clear hb
    go_wp2_with fail
    refine (told1_any (T (leV b + leV c)) gb ga _ (T_size _) HBB.out HAA.out).mono ?_
    rintro e w1 ⟨rfl, hb⟩
    replace HB := Aside0.mk (below_step HB.out hb)
    replace HBB := Aside0.mk (blk_below HBB.out hb)
    replace HAA := Aside0.mk (blk_below HAA.out hb)
    clear hb
    go_wp2_with fail
    refine (via (AddT _ HA.out (isT _)) (congrArg T (Nat.add_assoc _ _ _).symm)).mono ?_
    rintro e w1 ⟨rfl, hb⟩
    replace HB := Aside0.mk (below_step HB.out hb)
    replace HBB := Aside0.mk (blk_below HBB.out hb)
    replace HAA := Aside0.mk (blk_below HAA.out hb)
    clear hb
    go_wp2_with fail
    refine (told1_any (T (leV a + leV b + leV c)) gb ga _ (T_size _) HBB.out HAA.out).mono ?_
    rintro e w1 ⟨rfl, hb⟩
    replace HB := Aside0.mk (below_step HB.out hb)
    replace HBB := Aside0.mk (blk_below HBB.out hb)
    replace HAA := Aside0.mk (blk_below HAA.out hb)
    clear hb
    go_wp2_with fail
    refine (MulT _ (isT _) HC.out).mono ?_
    rintro e w1 ⟨rfl, hb⟩
    replace HB := Aside0.mk (below_step HB.out hb)
    replace HBB := Aside0.mk (blk_below HBB.out hb)
    replace HAA := Aside0.mk (blk_below HAA.out hb)
    clear hb
    go_wp2_with fail
    refine (told1_any (T (leV a * leV b * leV c)) gb ga _ (T_size _) HBB.out HAA.out).mono ?_
    rintro e w1 ⟨rfl, hb⟩
    replace HB := Aside0.mk (below_step HB.out hb)
    replace HBB := Aside0.mk (blk_below HBB.out hb)
    replace HAA := Aside0.mk (blk_below HAA.out hb)
    clear hb
    go_wp2_with fail
    refine (MulT _ HB0.out HC.out).mono ?_
    rintro e w1 ⟨rfl, hb⟩
    replace HB := Aside0.mk (below_step HB.out hb)
    replace HBB := Aside0.mk (blk_below HBB.out hb)
    replace HAA := Aside0.mk (blk_below HAA.out hb)
    clear hb
    go_wp2_with fail
    refine (told1_any (T (leV b * leV c)) gb ga _ (T_size _) HBB.out HAA.out).mono ?_
    rintro e w1 ⟨rfl, hb⟩
    replace HB := Aside0.mk (below_step HB.out hb)
    replace HBB := Aside0.mk (blk_below HBB.out hb)
    replace HAA := Aside0.mk (blk_below HAA.out hb)
    clear hb
    go_wp2_with fail
    refine (via (MulT _ HA.out (isT _)) (congrArg T (Nat.mul_assoc _ _ _).symm)).mono ?_
    rintro e w1 ⟨rfl, hb⟩
    replace HB := Aside0.mk (below_step HB.out hb)
    replace HBB := Aside0.mk (blk_below HBB.out hb)
    replace HAA := Aside0.mk (blk_below HAA.out hb)
    clear hb
    go_wp2_with fail
    refine (told1_any (T (leV a * leV b * leV c)) gb ga _ (T_size _) HBB.out HAA.out).mono ?_
    rintro e w1 ⟨rfl, hb⟩
    replace HB := Aside0.mk (below_step HB.out hb)
    replace HBB := Aside0.mk (blk_below HBB.out hb)
    replace HAA := Aside0.mk (blk_below HAA.out hb)
    clear hb
    go_wp2_with fail
    refine (MulT _ HC.out (isT _)).mono ?_
    rintro e w1 ⟨rfl, hb⟩
    replace HB := Aside0.mk (below_step HB.out hb)
    replace HBB := Aside0.mk (blk_below HBB.out hb)
    replace HAA := Aside0.mk (blk_below HAA.out hb)
    clear hb
    go_wp2_with fail
    refine (told1_any (T (leV c * (leV a + leV b))) gb ga _ (T_size _) HBB.out HAA.out).mono ?_
    rintro e w1 ⟨rfl, hb⟩
    replace HB := Aside0.mk (below_step HB.out hb)
    replace HBB := Aside0.mk (blk_below HBB.out hb)
    replace HAA := Aside0.mk (blk_below HAA.out hb)
    clear hb
    go_wp2_with fail
    refine (MulT _ HC.out HA.out).mono ?_
    rintro e w1 ⟨rfl, hb⟩
    replace HB := Aside0.mk (below_step HB.out hb)
    replace HBB := Aside0.mk (blk_below HBB.out hb)
    replace HAA := Aside0.mk (blk_below HAA.out hb)
    clear hb
    go_wp2_with fail
    refine (told1_any (T (leV c * leV a)) gb ga _ (T_size _) HBB.out HAA.out).mono ?_
    rintro e w1 ⟨rfl, hb⟩
    replace HB := Aside0.mk (below_step HB.out hb)
    replace HBB := Aside0.mk (blk_below HBB.out hb)
    replace HAA := Aside0.mk (blk_below HAA.out hb)
    clear hb
    go_wp2_with fail
    refine (MulT _ HC.out HB0.out).mono ?_
    rintro e w1 ⟨rfl, hb⟩
    replace HB := Aside0.mk (below_step HB.out hb)
    replace HBB := Aside0.mk (blk_below HBB.out hb)
    replace HAA := Aside0.mk (blk_below HAA.out hb)
    clear hb
    go_wp2_with fail
    refine (told1_any (T (leV c * leV b)) gb ga _ (T_size _) HBB.out HAA.out).mono ?_
    rintro e w1 ⟨rfl, hb⟩
    replace HB := Aside0.mk (below_step HB.out hb)
    replace HBB := Aside0.mk (blk_below HBB.out hb)
    replace HAA := Aside0.mk (blk_below HAA.out hb)
    clear hb
    go_wp2_with fail
    refine (via (AddT _ (isT _) (isT _)) (congrArg T (Nat.mul_add _ _ _).symm)).mono ?_
    rintro e w1 ⟨rfl, hb⟩
    replace HB := Aside0.mk (below_step HB.out hb)
    replace HBB := Aside0.mk (blk_below HBB.out hb)
    replace HAA := Aside0.mk (blk_below HAA.out hb)
    clear hb
    go_wp2_with fail
    refine (told1_any (T (leV c * (leV a + leV b))) gb ga _ (T_size _) HBB.out HAA.out).mono ?_
    rintro e w1 ⟨rfl, hb⟩
    replace HB := Aside0.mk (below_step HB.out hb)
    replace HBB := Aside0.mk (blk_below HBB.out hb)
    replace HAA := Aside0.mk (blk_below HAA.out hb)
    clear hb
    go_wp2_with fail
    refine (InvT _ HA.out).mono ?_
    rintro e w1 ⟨rfl, hb⟩
    replace HB := Aside0.mk (below_step HB.out hb)
    replace HBB := Aside0.mk (blk_below HBB.out hb)
    replace HAA := Aside0.mk (blk_below HAA.out hb)
    clear hb
    go_wp2_with fail
    refine (told1_any (T ((leV a % P25) ^ (P25 - 2))) gb ga _ (T_size _) HBB.out HAA.out).mono ?_
    rintro e w1 ⟨rfl, hb⟩
    replace HB := Aside0.mk (below_step HB.out hb)
    replace HBB := Aside0.mk (blk_below HBB.out hb)
    replace HAA := Aside0.mk (blk_below HAA.out hb)
    clear hb
    go_wp2_with fail
    refine (via (MulT _ HA.out (isT _)) HOne.out).mono ?_
    rintro e w1 ⟨rfl, hb⟩
    replace HB := Aside0.mk (below_step HB.out hb)
    replace HBB := Aside0.mk (blk_below HBB.out hb)
    replace HAA := Aside0.mk (blk_below HAA.out hb)
    clear hb
    go_wp2_with fail
    refine (told1_any (T (1)) gb ga _ (T_size _) HBB.out HAA.out).mono ?_
    rintro e w1 ⟨rfl, hb⟩
    replace HB := Aside0.mk (below_step HB.out hb)
    replace HBB := Aside0.mk (blk_below HBB.out hb)
    replace HAA := Aside0.mk (blk_below HAA.out hb)
    clear hb
    go_wp2_with fail
    refine (alive01 _).mono ?_
    rintro e w1 ⟨rfl, hb⟩
    replace HB := Aside0.mk (below_step HB.out hb)
    replace HBB := Aside0.mk (blk_below HBB.out hb)
    replace HAA := Aside0.mk (blk_below HAA.out hb)
    clear hb
    have cA := blk_cell HAA.out 0
    go_wp2_with fail
    refine (via (NormT _ (isT _)) rfl).mono ?_
    rintro e w1 ⟨rfl, hb⟩
    replace HB := Aside0.mk (below_step HB.out hb)
    replace HBB := Aside0.mk (blk_below HBB.out hb)
    replace HAA := Aside0.mk (blk_below HAA.out hb)
    clear hb
    go_wp2_with fail
    refine (told1_any (T (leV a)) gb ga _ (T_size _) HBB.out HAA.out).mono ?_
    rintro e w1 ⟨rfl, hb⟩
    replace HB := Aside0.mk (below_step HB.out hb)
    replace HBB := Aside0.mk (blk_below HBB.out hb)
    replace HAA := Aside0.mk (blk_below HAA.out hb)
    clear hb
    go_wp2_with fail
    refine (small0 _).mono ?_
    rintro e w1 ⟨rfl, hb⟩
    replace HB := Aside0.mk (below_step HB.out hb)
    replace HBB := Aside0.mk (blk_below HBB.out hb)
    replace HAA := Aside0.mk (blk_below HAA.out hb)
    clear hb
    go_wp2_with fail
    refine (small0 _).mono ?_
    rintro e w1 ⟨rfl, hb⟩
    replace HB := Aside0.mk (below_step HB.out hb)
    replace HBB := Aside0.mk (blk_below HBB.out hb)
    replace HAA := Aside0.mk (blk_below HAA.out hb)
    clear hb
    go_wp2_with fail
    refine (small1 _).mono ?_
    rintro e w1 ⟨rfl, hb⟩
    replace HB := Aside0.mk (below_step HB.out hb)
    replace HBB := Aside0.mk (blk_below HBB.out hb)
    replace HAA := Aside0.mk (blk_below HAA.out hb)
    clear hb
    go_wp2
    go_ret
    exact ⟨rfl, HB.out⟩
theorem cut31 (a : ByteArray) : (a.extract 0 (min a.size 31)).size ≠ 32 := by rw [ByteArray.size_extract]; omega
set_option maxHeartbeats 2000000 in
set_option maxRecDepth 100000 in
theorem LimbField_no (a b c : ByteArray) (W : World) (h : ¬ (a.size = 32 ∧ b.size = 32 ∧ c.size = 32)) : Calls Try.prog 5 #[.string a, .string b, .string c] W fun e W' => e = .returned (.bool true) ∧ Below W.heap.size W W' := by
  have hal : [a, b, c].all (fun x => x.size == 32) = false := by
    rw [Bool.eq_false_iff]
    intro h2
    simp at h2
    exact h h2
  have HS := Aside0.mk hal
  have HM := Lib.hid (fun W => Mul_bad (a.extract 0 (min a.size 31)) b W (fun h => cut31 a h.1))
  clear h hal
  by_cases hs : a.size ≤ 31
  · skip
    go_enter Try.func5, Try.ntmps5
    go_wp2_with fail
    refine (refSized3 a b c _ _ (heap_alloc_new _ _) false HS.out).mono ?_
    rintro e w1 ⟨rfl, hb⟩
    have HB := Aside0.mk (below_step (below_alloc (Below.refl _ _) _) hb)
    clear hb
    go_wp2_with fail
    all_goals
      refine (Mul_bad a b _ (fun h => by have := h.1; omega)).mono ?_
      rintro e w1 ⟨rfl, hb⟩
      replace HB := Aside0.mk (below_step HB.out hb)
      clear hb
      go_wp2_with fail
      refine (alive01 _).mono ?_
      rintro e w1 ⟨rfl, hb⟩
      replace HB := Aside0.mk (below_step HB.out hb)
      clear hb
      go_wp2
      go_ret
      exact ⟨rfl, HB.out⟩
  · skip
    go_enter Try.func5, Try.ntmps5
    go_wp2_with fail
    refine (refSized3 a b c _ _ (heap_alloc_new _ _) false HS.out).mono ?_
    rintro e w1 ⟨rfl, hb⟩
    have HB := Aside0.mk (below_step (below_alloc (Below.refl _ _) _) hb)
    clear hb
    go_wp2_with fail
    all_goals
      refine (Mul_bad (a.extract 0 31) b _ (fun h => by have := h.1; rw [ByteArray.size_extract] at this; omega)).mono ?_
      rintro e w1 ⟨rfl, hb⟩
      replace HB := Aside0.mk (below_step HB.out hb)
      clear hb
      go_wp2_with fail
      refine (alive01 _).mono ?_
      rintro e w1 ⟨rfl, hb⟩
      replace HB := Aside0.mk (below_step HB.out hb)
      clear hb
      go_wp2
      go_ret
      exact ⟨rfl, HB.out⟩
theorem LimbField_walk (a b c : ByteArray) (W : World) : Calls Try.prog 5 #[.string a, .string b, .string c] W fun e W' => e = .returned (.bool true) ∧ Below W.heap.size W W' := by
  by_cases h : a.size = 32 ∧ b.size = 32 ∧ c.size = 32
  · exact LimbField_yes a b c W h.1 h.2.1 h.2.2
  · exact LimbField_no a b c W h
end Go.Proofs.Ytdmpnogjpgoaaaa

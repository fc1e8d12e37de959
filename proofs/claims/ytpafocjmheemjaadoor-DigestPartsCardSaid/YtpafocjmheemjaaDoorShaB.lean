import Derived.Test.YtpafocjmheemjaaDoorShaA
set_option linter.unusedSimpArgs false
namespace Go.Proofs.YtpafocjmheemjaaDoor
open Go.RowKit Go.Proofs.YtpafocjmheemjaaDoorW.PrintWords
/-- 16 words as an array -/
def arr16 (f : Nat → W32) : Array Value := #[u32 (f 0), u32 (f 1), u32 (f 2), u32 (f 3), u32 (f 4), u32 (f 5), u32 (f 6), u32 (f 7), u32 (f 8), u32 (f 9), u32 (f 10), u32 (f 11), u32 (f 12), u32 (f 13), u32 (f 14), u32 (f 15)]
theorem arr16_get (f : Nat → W32) (j : Nat) (hj : j < 16) : (arr16 f)[j]? = some (u32 (f j)) := by
  have : j = 0 ∨ j = 1 ∨ j = 2 ∨ j = 3 ∨ j = 4 ∨ j = 5 ∨ j = 6 ∨ j = 7 ∨ j = 8 ∨ j = 9 ∨ j = 10 ∨ j = 11 ∨ j = 12 ∨ j = 13 ∨ j = 14 ∨ j = 15 := by omega
  rcases this with rfl | rfl | rfl | rfl | rfl | rfl | rfl | rfl | rfl | rfl | rfl | rfl | rfl | rfl | rfl | rfl <;> rfl
def moreF (f : Nat → W32) (t : Nat) : W32 :=
  (ror (f ((t + 14) % 16)) 17 ^^^ ror (f ((t + 14) % 16)) 19 ^^^ f ((t + 14) % 16) >>> 10) + f ((t + 9) % 16) + (ror (f ((t + 1) % 16)) 7 ^^^ ror (f ((t + 1) % 16)) 18 ^^^ f ((t + 1) % 16) >>> 3) + f (t % 16)
theorem and15 (t : Nat) (h : t < 100) : bits .and .i64 (t : Int) 15 = ((t % 16 : Nat) : Int) := by
  have : ∀ n : Fin 100, bits .and .i64 (n.val : Int) 15 = ((n.val % 16 : Nat) : Int) := by decide +kernel
  exact this ⟨t, h⟩
attribute [local irreducible] Calls
attribute [local go_sem] un_or un_xor un_and un_add un_shl8 un_shr3 un_shr10
set_option maxHeartbeats 1000000 in
theorem more_any (f : Nat → W32) (t : Nat) (ht : t < 64) (w : World) :
    Calls Tryd.prog 96 #[.agg (arr16 f), .int .i64 (t : Int)] w fun e w' => e = .returned (u32 (moreF f t)) ∧ Below w.heap.size w w' := by
  have a0 := and15 t (by omega)
  have a1 : bits .and .i64 ((t : Int) + 1) 15 = _ := and15 (t + 1) (by omega)
  have a9 : bits .and .i64 ((t : Int) + 9) 15 = _ := and15 (t + 9) (by omega)
  have a14 : bits .and .i64 ((t : Int) + 14) 15 = _ := and15 (t + 14) (by omega)
  have HO := (Own.start w).alloc (.cells (arr16 f) 141)
  have b0 := arr16_get f (t % 16) (Nat.mod_lt _ (by decide))
  have b1 := arr16_get f ((t + 1) % 16) (Nat.mod_lt _ (by decide))
  have b9 := arr16_get f ((t + 9) % 16) (Nat.mod_lt _ (by decide))
  have b14 := arr16_get f ((t + 14) % 16) (Nat.mod_lt _ (by decide))
  have l0 : t % 16 < 16 := Nat.mod_lt _ (by decide)
  have l1 : (t + 1) % 16 < 16 := Nat.mod_lt _ (by decide)
  have l9 : (t + 9) % 16 < 16 := Nat.mod_lt _ (by decide)
  have l14 : (t + 14) % 16 < 16 := Nat.mod_lt _ (by decide)
  unfold moreF
  generalize t % 16 = i0 at *
  generalize (t + 1) % 16 = i1 at *
  generalize (t + 9) % 16 = i9 at *
  generalize (t + 14) % 16 = i14 at *
  have w1 : IntKind.i64.wrap ((t : Int) + 1) = (t : Int) + 1 := IntWalk.i64_in _ (by omega)
  have w9 : IntKind.i64.wrap ((t : Int) + 9) = (t : Int) + 9 := IntWalk.i64_in _ (by omega)
  have w14 : IntKind.i64.wrap ((t : Int) + 14) = (t : Int) + 14 := IntWalk.i64_in _ (by omega)
  have m0 : (i0 : Int) < 16 := by omega
  have m1 : (i1 : Int) < 16 := by omega
  have m9 : (i9 : Int) < 16 := by omega
  have m14 : (i14 : Int) < 16 := by omega
  have n0 : (0 : Int) ≤ i0 := by omega
  have n1 : (0 : Int) ≤ i1 := by omega
  have n9 : (0 : Int) ≤ i9 := by omega
  have n14 : (0 : Int) ≤ i14 := by omega
  go_enter Tryd.func96, Tryd.ntmps96
  go_wp2_with fail
  refine kall [(0, true, some 9), (1, true, some 10), (2, true, some 11), (3, true, some 12), (5, true, some 14), (6, true, some 15), (7, true, some 16), (8, true, some 17), (4, true, some 13), (10, true, some 5), (9, true, some 18), (11, true, some 6)] (by kernel_rfl) rfl (by kernel_rfl) rfl (fun _ _ _ _ _ h => h) ?_
  repeat (first
    | (refine sP (v := ?_) (a' := ?_) rfl rfl (by rfl) ?_ ?_ ?_; rotate_left 2; (· intro w'; go_simp; with_reducible rfl); (· simp only [Act.put, List.setIfInBounds_toArray, List.set_cons_zero, List.set_cons_succ, kw64, kw32]; rfl))
    | (refine sB (v := ?_) (a' := ?_) rfl rfl (by rfl) ?_ ?_ ?_; rotate_left 2; (· intro w1 hg; have c := (HO.up hg).cell 0 rfl; have c1 := c i1; have c14 := c i14; rw [b1] at c1; rw [b14] at c14; go_simp; with_reducible rfl); (· simp only [Act.put, List.setIfInBounds_toArray, List.set_cons_zero, List.set_cons_succ, kw64, kw32]; rfl)))
  intro w1 hg
  replace HO := HO.up hg
  clear hg
  go_wp2_with fail
  refine (rot_any (f i1) 7 (by omega) (by omega) _).mono ?_
  rintro e w1 ⟨rfl, hb⟩
  replace HO := HO.up hb
  clear hb
  go_wp2_with fail
  refine (rot_any (f i1) 18 (by omega) (by omega) _).mono ?_
  rintro e w1 ⟨rfl, hb⟩
  replace HO := HO.up hb
  clear hb
  go_wp2_with fail
  refine (rot_any (f i14) 17 (by omega) (by omega) _).mono ?_
  rintro e w1 ⟨rfl, hb⟩
  replace HO := HO.up hb
  clear hb
  go_wp2_with fail
  refine (rot_any (f i14) 19 (by omega) (by omega) _).mono ?_
  rintro e w1 ⟨rfl, hb⟩
  replace HO := HO.up hb
  clear hb
  go_wp2_with fail
  refine kall [(0, true, some 35), (1, true, some 36), (2, true, some 37), (3, true, some 38), (4, true, some 39), (7, true, some 42), (9, true, some 44), (10, true, some 45), (11, true, some 46), (5, true, some 40), (6, true, some 41), (8, true, some 43), (12, true, some 47), (13, true, some 48), (14, true, some 4)] (by kernel_rfl) rfl (by kernel_rfl) rfl (fun _ _ _ _ _ h => h) ?_
  repeat (first
    | (refine sP (v := ?_) (a' := ?_) rfl rfl (by rfl) ?_ ?_ ?_; rotate_left 2; (· intro w'; go_simp; with_reducible rfl); (· simp only [Act.put, List.setIfInBounds_toArray, List.set_cons_zero, List.set_cons_succ, kw64, kw32]; rfl))
    | (refine sB (v := ?_) (a' := ?_) rfl rfl (by rfl) ?_ ?_ ?_; rotate_left 2; (· intro w1 hg; have c := (HO.up hg).cell 0 rfl; have c0 := c i0; have c9 := c i9; rw [b0] at c0; rw [b9] at c9; go_simp; with_reducible rfl); (· simp only [Act.put, List.setIfInBounds_toArray, List.set_cons_zero, List.set_cons_succ, kw64, kw32]; rfl)))
  intro w1 hg
  go_wp2
  go_ret
  refine ⟨ret_congr ?_, (HO.up hg).below⟩
  show Value.int .u32 _ = Value.int .u32 _
  simp only [un_xor, un_shr3, un_shr10, un_addw]
end Go.Proofs.YtpafocjmheemjaaDoor

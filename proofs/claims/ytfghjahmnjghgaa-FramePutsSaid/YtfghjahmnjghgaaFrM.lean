import Derived.Test.YtfghjahmnjghgaaFrL
set_option linter.unusedSimpArgs false
set_option linter.unusedVariables false
/- LAYER 8: the document's frames as bytes. -/
namespace Go.Proofs.Ytfghjahmnjghgaa
open Go.RowKit Go.Proofs.YtfghjahmnjghgaaW.PrintWords
theorem pk_le (ps : List PartD) (h : ps.any longP = false) (hn : ∀ p ∈ ps, p.n < 18446744073709551616) : (pk ps).size ≤ 1033 * ps.length := by
  induction ps with
  | nil => exact Nat.le_refl _
  | cons p ps ih =>
    rw [List.any_cons, Bool.or_eq_false_iff] at h
    have h1 := ih h.2 (fun q hq => hn q (List.mem_cons_of_mem _ hq))
    have h2 := oneS_le p h.1 (hn p (List.mem_cons_self ..))
    rw [show pk (p :: ps) = pk [p] ++ pk ps from pk_app [p] ps, ByteArray.size_append, pk_one, List.length_cons]
    omega
attribute [local irreducible] Calls
set_option maxHeartbeats 8000000 in
set_option maxRecDepth 100000 in
theorem RPut_0 (a b c : Nat) (i ba : ByteArray) (sg on : Nat) (ra : ByteArray) (pv nn : Nat) (bo : ByteArray) (ks : List ByteArray) (A : Option Addr) (n cp : Nat) (w : World) (ho : okF ⟨0, a, b, c, i, ba, sg, on, ra, pv, nn, bo, ks⟩) (hr : rightF ⟨0, a, b, c, i, ba, sg, on, ra, pv, nn, bo, ks⟩ = true) :
    Calls Try.prog 13 #[.agg #[.int .i64 0, .int .u64 (a : Int), .int .u64 (b : Int), .int .u64 (c : Int), .string i, .string ba, .int .u64 (sg : Int), .int .u64 (on : Int), .string ra, .int .u64 (pv : Int), .int .u64 (nn : Int), .string bo, .slice A n cp]] w fun e w' => e = .returned (.string (pk (partsP ⟨0, a, b, c, i, ba, sg, on, ra, pv, nn, bo, ks⟩))) ∧ Below w.heap.size w w' := by
  obtain ⟨h1, h2, _, hb, _⟩ := right_parts _ hr
  have hE : pk (partsP ⟨0, a, b, c, i, ba, sg, on, ra, pv, nn, bo, ks⟩) = pk (headP ⟨0, a, b, c, i, ba, sg, on, ra, pv, nn, bo, ks⟩) ++ oneS (txtP bo) := by
    rw [show partsP ⟨0, a, b, c, i, ba, sg, on, ra, pv, nn, bo, ks⟩ = headP ⟨0, a, b, c, i, ba, sg, on, ra, pv, nn, bo, ks⟩ ++ [txtP bo] from rfl, pk_app, pk_one]
  rw [hE]
  clear hE
  have HH := Lib.hid (fun w1 => show Calls Try.prog 14 #[.agg #[.int .i64 0, .int .u64 (a : Int), .int .u64 (b : Int), .int .u64 (c : Int), .string i, .string ba, .int .u64 (sg : Int), .int .u64 (on : Int), .string ra, .int .u64 (pv : Int), .int .u64 (nn : Int), .string bo, .slice A n cp]] w1 (fun e w' => e = .returned (.string (pk (headP ⟨0, a, b, c, i, ba, sg, on, ra, pv, nn, bo, ks⟩))) ∧ Below w1.heap.size w1 w') from RHead_any ⟨0, a, b, c, i, ba, sg, on, ra, pv, nn, bo, ks⟩ A n cp w1 ho hr)
  have HT := Lib.hid (fun w1 => text08 bo w1 hb)
  have z1 := oneS_le (txtP bo) (txt_short _ hb) (show (0 : Nat) < 18446744073709551616 by decide)
  have z2 := pk_le _ (head_short _ hr) (head_nums _ ⟨h1, h2⟩ ho)
  have z3 := headP_len ⟨0, a, b, c, i, ba, sg, on, ra, pv, nn, bo, ks⟩
  clear ho hr hb h1 h2
  generalize headP ⟨0, a, b, c, i, ba, sg, on, ra, pv, nn, bo, ks⟩ = hp at *
  generalize pk hp = ph at *
  generalize oneS (txtP bo) = pt at *
  have g0 : ¬ (ph.size + pt.size > 9223372036854775807) := by omega
  clear z1 z2 z3
  have HO := (Own.start w).alloc' (.cells #[.int .i64 0, .int .u64 (a : Int), .int .u64 (b : Int), .int .u64 (c : Int), .string i, .string ba, .int .u64 (sg : Int), .int .u64 (on : Int), .string ra, .int .u64 (pv : Int), .int .u64 (nn : Int), .string bo, .slice A n cp] 25) rfl
  have c0 := HO.cell 0 rfl
  go_enter Try.func13, Try.ntmps13
  go_wp2_with fail
  clear c0
  refine kall [(2, true, some 11), (0, true, some 9), (1, true, some 10), (3, true, some 12), (4, true, some 13), (5, true, some 14), (6, true, some 2)] (by kernel_rfl) rfl (by kernel_rfl) rfl (fun _ _ _ _ _ h => h) ?_
  (refine sP (v := ?_) (a' := ?_) rfl rfl (by rfl) ?_ ?_ ?_; rotate_left 2; (· intro w'; go_simp; with_reducible rfl); (· simp only [Act.put, List.setIfInBounds_toArray, List.set_cons_zero, List.set_cons_succ, kw64, kw32]; rfl))
  (refine sB (v := ?_) (a' := ?_) rfl rfl (by rfl) ?_ ?_ ?_; rotate_left 2; (· intro w1 hg; (refine Eq.trans (run_load_row 25 (.tmp 1) rfl w.heap.size (by rfl) _ #[.int .i64 0, .int .u64 (a : Int), .int .u64 (b : Int), .int .u64 (c : Int), .string i, .string ba, .int .u64 (sg : Int), .int .u64 (on : Int), .string ra, .int .u64 (pv : Int), .int .u64 (nn : Int), .string bo, .slice A n cp] _ _ ((HO.up hg).blk 0 rfl) Try.underlying25 rfl (by kernel_rfl)) ?_; with_reducible rfl)); (· simp only [Act.put, List.setIfInBounds_toArray, List.set_cons_zero, List.set_cons_succ, kw64, kw32]; rfl))
  (refine sD (v := ?_) (a' := ?_) Try.func14 rfl rfl (by rfl) rfl (by kernel_rfl) rfl (by rfl) ?_ ?_ ?_; rotate_left 2; (· intro w1 hg; exact HH.out w1); (· simp only [Act.put, List.setIfInBounds_toArray, List.set_cons_zero, List.set_cons_succ, kw64, kw32]; rfl))
  (refine sB (v := ?_) (a' := ?_) rfl rfl (by rfl) ?_ ?_ ?_; rotate_left 2; (· intro w1 hg; have h9 := (HO.up hg).cell 0 rfl; go_simp; with_reducible rfl); (· simp only [Act.put, List.setIfInBounds_toArray, List.set_cons_zero, List.set_cons_succ, kw64, kw32]; rfl))
  (refine sD (v := ?_) (a' := ?_) Try.func32 rfl rfl (by rfl) rfl (by kernel_rfl) rfl (by rfl) ?_ ?_ ?_; rotate_left 2; (· intro w1 hg; exact HT.out w1); (· simp only [Act.put, List.setIfInBounds_toArray, List.set_cons_zero, List.set_cons_succ, kw64, kw32]; rfl))
  (refine sP (v := ?_) (a' := ?_) rfl rfl (by rfl) ?_ ?_ ?_; rotate_left 2; (· intro w'; go_simp; with_reducible rfl); (· simp only [Act.put, List.setIfInBounds_toArray, List.set_cons_zero, List.set_cons_succ, kw64, kw32]; rfl))
  (refine sP (v := ?_) (a' := ?_) rfl rfl (by rfl) ?_ ?_ ?_; rotate_left 2; (· intro w'; go_simp; with_reducible rfl); (· simp only [Act.put, List.setIfInBounds_toArray, List.set_cons_zero, List.set_cons_succ, kw64, kw32]; rfl))
  intro w1 hg
  replace HO := HO.up hg
  clear hg
  go_wp2
  go_ret
  exact ⟨rfl, HO.below⟩
set_option maxHeartbeats 8000000 in
set_option maxRecDepth 100000 in
theorem RPut_1 (a b c : Nat) (i ba : ByteArray) (sg on : Nat) (ra : ByteArray) (pv nn : Nat) (bo : ByteArray) (ks : List ByteArray) (A : Option Addr) (n cp : Nat) (w : World) (ho : okF ⟨1, a, b, c, i, ba, sg, on, ra, pv, nn, bo, ks⟩) (hr : rightF ⟨1, a, b, c, i, ba, sg, on, ra, pv, nn, bo, ks⟩ = true) :
    Calls Try.prog 13 #[.agg #[.int .i64 1, .int .u64 (a : Int), .int .u64 (b : Int), .int .u64 (c : Int), .string i, .string ba, .int .u64 (sg : Int), .int .u64 (on : Int), .string ra, .int .u64 (pv : Int), .int .u64 (nn : Int), .string bo, .slice A n cp]] w fun e w' => e = .returned (.string (pk (partsP ⟨1, a, b, c, i, ba, sg, on, ra, pv, nn, bo, ks⟩))) ∧ Below w.heap.size w w' := by
  obtain ⟨h1, h2, _, hb, _⟩ := right_parts _ hr
  have hE : pk (partsP ⟨1, a, b, c, i, ba, sg, on, ra, pv, nn, bo, ks⟩) = pk (headP ⟨1, a, b, c, i, ba, sg, on, ra, pv, nn, bo, ks⟩) ++ oneS (txtP bo) := by
    rw [show partsP ⟨1, a, b, c, i, ba, sg, on, ra, pv, nn, bo, ks⟩ = headP ⟨1, a, b, c, i, ba, sg, on, ra, pv, nn, bo, ks⟩ ++ [txtP bo] from rfl, pk_app, pk_one]
  rw [hE]
  clear hE
  have HH := Lib.hid (fun w1 => show Calls Try.prog 14 #[.agg #[.int .i64 1, .int .u64 (a : Int), .int .u64 (b : Int), .int .u64 (c : Int), .string i, .string ba, .int .u64 (sg : Int), .int .u64 (on : Int), .string ra, .int .u64 (pv : Int), .int .u64 (nn : Int), .string bo, .slice A n cp]] w1 (fun e w' => e = .returned (.string (pk (headP ⟨1, a, b, c, i, ba, sg, on, ra, pv, nn, bo, ks⟩))) ∧ Below w1.heap.size w1 w') from RHead_any ⟨1, a, b, c, i, ba, sg, on, ra, pv, nn, bo, ks⟩ A n cp w1 ho hr)
  have HT := Lib.hid (fun w1 => text08 bo w1 hb)
  have z1 := oneS_le (txtP bo) (txt_short _ hb) (show (0 : Nat) < 18446744073709551616 by decide)
  have z2 := pk_le _ (head_short _ hr) (head_nums _ ⟨h1, h2⟩ ho)
  have z3 := headP_len ⟨1, a, b, c, i, ba, sg, on, ra, pv, nn, bo, ks⟩
  clear ho hr hb h1 h2
  generalize headP ⟨1, a, b, c, i, ba, sg, on, ra, pv, nn, bo, ks⟩ = hp at *
  generalize pk hp = ph at *
  generalize oneS (txtP bo) = pt at *
  have g0 : ¬ (ph.size + pt.size > 9223372036854775807) := by omega
  clear z1 z2 z3
  have HO := (Own.start w).alloc' (.cells #[.int .i64 1, .int .u64 (a : Int), .int .u64 (b : Int), .int .u64 (c : Int), .string i, .string ba, .int .u64 (sg : Int), .int .u64 (on : Int), .string ra, .int .u64 (pv : Int), .int .u64 (nn : Int), .string bo, .slice A n cp] 25) rfl
  have c0 := HO.cell 0 rfl
  go_enter Try.func13, Try.ntmps13
  go_wp2_with fail
  clear c0
  refine kall [(2, true, some 11), (0, true, some 9), (1, true, some 10), (3, true, some 12), (4, true, some 13), (5, true, some 14), (6, true, some 2)] (by kernel_rfl) rfl (by kernel_rfl) rfl (fun _ _ _ _ _ h => h) ?_
  (refine sP (v := ?_) (a' := ?_) rfl rfl (by rfl) ?_ ?_ ?_; rotate_left 2; (· intro w'; go_simp; with_reducible rfl); (· simp only [Act.put, List.setIfInBounds_toArray, List.set_cons_zero, List.set_cons_succ, kw64, kw32]; rfl))
  (refine sB (v := ?_) (a' := ?_) rfl rfl (by rfl) ?_ ?_ ?_; rotate_left 2; (· intro w1 hg; (refine Eq.trans (run_load_row 25 (.tmp 1) rfl w.heap.size (by rfl) _ #[.int .i64 1, .int .u64 (a : Int), .int .u64 (b : Int), .int .u64 (c : Int), .string i, .string ba, .int .u64 (sg : Int), .int .u64 (on : Int), .string ra, .int .u64 (pv : Int), .int .u64 (nn : Int), .string bo, .slice A n cp] _ _ ((HO.up hg).blk 0 rfl) Try.underlying25 rfl (by kernel_rfl)) ?_; with_reducible rfl)); (· simp only [Act.put, List.setIfInBounds_toArray, List.set_cons_zero, List.set_cons_succ, kw64, kw32]; rfl))
  (refine sD (v := ?_) (a' := ?_) Try.func14 rfl rfl (by rfl) rfl (by kernel_rfl) rfl (by rfl) ?_ ?_ ?_; rotate_left 2; (· intro w1 hg; exact HH.out w1); (· simp only [Act.put, List.setIfInBounds_toArray, List.set_cons_zero, List.set_cons_succ, kw64, kw32]; rfl))
  (refine sB (v := ?_) (a' := ?_) rfl rfl (by rfl) ?_ ?_ ?_; rotate_left 2; (· intro w1 hg; have h9 := (HO.up hg).cell 0 rfl; go_simp; with_reducible rfl); (· simp only [Act.put, List.setIfInBounds_toArray, List.set_cons_zero, List.set_cons_succ, kw64, kw32]; rfl))
  (refine sD (v := ?_) (a' := ?_) Try.func32 rfl rfl (by rfl) rfl (by kernel_rfl) rfl (by rfl) ?_ ?_ ?_; rotate_left 2; (· intro w1 hg; exact HT.out w1); (· simp only [Act.put, List.setIfInBounds_toArray, List.set_cons_zero, List.set_cons_succ, kw64, kw32]; rfl))
  (refine sP (v := ?_) (a' := ?_) rfl rfl (by rfl) ?_ ?_ ?_; rotate_left 2; (· intro w'; go_simp; with_reducible rfl); (· simp only [Act.put, List.setIfInBounds_toArray, List.set_cons_zero, List.set_cons_succ, kw64, kw32]; rfl))
  (refine sP (v := ?_) (a' := ?_) rfl rfl (by rfl) ?_ ?_ ?_; rotate_left 2; (· intro w'; go_simp; with_reducible rfl); (· simp only [Act.put, List.setIfInBounds_toArray, List.set_cons_zero, List.set_cons_succ, kw64, kw32]; rfl))
  intro w1 hg
  replace HO := HO.up hg
  clear hg
  go_wp2
  go_ret
  exact ⟨rfl, HO.below⟩
set_option maxHeartbeats 8000000 in
set_option maxRecDepth 100000 in
theorem RPut_2 (a b c : Nat) (i ba : ByteArray) (sg on : Nat) (ra : ByteArray) (pv nn : Nat) (bo : ByteArray) (ks : List ByteArray) (A : Option Addr) (cp : Nat) (w : World) (ho : okF ⟨2, a, b, c, i, ba, sg, on, ra, pv, nn, bo, ks⟩) (hr : rightF ⟨2, a, b, c, i, ba, sg, on, ra, pv, nn, bo, ks⟩ = true) (hC : Kd.string.C w A ks.length ks) :
    Calls Try.prog 13 #[.agg #[.int .i64 2, .int .u64 (a : Int), .int .u64 (b : Int), .int .u64 (c : Int), .string i, .string ba, .int .u64 (sg : Int), .int .u64 (on : Int), .string ra, .int .u64 (pv : Int), .int .u64 (nn : Int), .string bo, .slice A ks.length cp]] w fun e w' => e = .returned (.string (pk (partsP ⟨2, a, b, c, i, ba, sg, on, ra, pv, nn, bo, ks⟩))) ∧ Below w.heap.size w w' := by
  obtain ⟨h1, h2, _, hb, hl, _⟩ := right_parts _ hr
  obtain ⟨_, _, s3⟩ := right_sizes _ hr
  dsimp only at hb hl s3
  have hE : pk (partsP ⟨2, a, b, c, i, ba, sg, on, ra, pv, nn, bo, ks⟩) = pk (headP ⟨2, a, b, c, i, ba, sg, on, ra, pv, nn, bo, ks⟩) ++ oneS (numP ks.length) ++ pk (ks.map txtP) := by
    rw [show partsP ⟨2, a, b, c, i, ba, sg, on, ra, pv, nn, bo, ks⟩ = headP ⟨2, a, b, c, i, ba, sg, on, ra, pv, nn, bo, ks⟩ ++ ([numP ks.length] ++ ks.map txtP) from rfl, pk_app, pk_app, pk_one, ByteArray.append_assoc]
  rw [hE]
  clear hE
  have HH := Lib.hid (fun w1 => show Calls Try.prog 14 #[.agg #[.int .i64 2, .int .u64 (a : Int), .int .u64 (b : Int), .int .u64 (c : Int), .string i, .string ba, .int .u64 (sg : Int), .int .u64 (on : Int), .string ra, .int .u64 (pv : Int), .int .u64 (nn : Int), .string bo, .slice A ks.length cp]] w1 (fun e w' => e = .returned (.string (pk (headP ⟨2, a, b, c, i, ba, sg, on, ra, pv, nn, bo, ks⟩))) ∧ Below w1.heap.size w1 w') from RHead_any ⟨2, a, b, c, i, ba, sg, on, ra, pv, nn, bo, ks⟩ A ks.length cp w1 ho hr)
  have HN := Lib.hid (fun w1 => show Calls Try.prog 33 #[.int .u64 (ks.length : Int)] w1 (fun e w' => e = .returned (.string (oneS (numP ks.length))) ∧ Below w1.heap.size w1 w') from RNumber_any ks.length w1 (by omega))
  have z1 := oneS_le (numP ks.length) (num_short _) (show ks.length < 18446744073709551616 by omega)
  have z2 := pk_le _ (head_short _ hr) (head_nums _ ⟨h1, h2⟩ ho)
  have z3 := headP_len ⟨2, a, b, c, i, ba, sg, on, ra, pv, nn, bo, ks⟩
  have hu : (ks.length : Int) % 18446744073709551616 = (ks.length : Int) := by omega
  have HSz := Lib.hid (s3 rfl)
  have HC := Lib.hid (fun w1 (hg : Below w.heap.size w w1) => Kd.C_below hC hg)
  clear ho hr hb h1 h2 s3 hC
  generalize headP ⟨2, a, b, c, i, ba, sg, on, ra, pv, nn, bo, ks⟩ = hp at *
  generalize pk hp = ph at *
  generalize oneS (numP ks.length) = pt at *
  have HL := Lib.hid hl
  have g0 : ¬ (ph.size + pt.size > 9223372036854775807) := by omega
  have HZ := Lib.hid (show (ph ++ pt).size ≤ 20000 by rw [ByteArray.size_append]; omega)
  clear z1 z2 z3
  obtain ⟨n, hnn⟩ : ∃ n, n = ks.length := ⟨_, rfl⟩
  have HNN := Lib.hid hnn
  rw [← hnn] at hl hu HN HH HC ⊢
  clear hnn
  have HO := (Own.start w).alloc' (.cells #[.int .i64 2, .int .u64 (a : Int), .int .u64 (b : Int), .int .u64 (c : Int), .string i, .string ba, .int .u64 (sg : Int), .int .u64 (on : Int), .string ra, .int .u64 (pv : Int), .int .u64 (nn : Int), .string bo, .slice A n cp] 25) rfl
  have c0 := HO.cell 0 rfl
  go_enter Try.func13, Try.ntmps13
  go_wp2_with fail
  clear c0
  refine kall [(2, true, some 17), (0, true, some 15), (1, true, some 16), (3, true, some 18), (4, true, some 19), (5, true, some 20), (6, true, some 21), (7, true, some 22), (8, true, some 3)] (by kernel_rfl) rfl (by kernel_rfl) rfl (fun _ _ _ _ _ h => h) ?_
  (refine sP (v := ?_) (a' := ?_) rfl rfl (by rfl) ?_ ?_ ?_; rotate_left 2; (· intro w'; go_simp; with_reducible rfl); (· simp only [Act.put, List.setIfInBounds_toArray, List.set_cons_zero, List.set_cons_succ, kw64, kw32]; rfl))
  (refine sB (v := ?_) (a' := ?_) rfl rfl (by rfl) ?_ ?_ ?_; rotate_left 2; (· intro w1 hg; (refine Eq.trans (run_load_row 25 (.tmp 1) rfl w.heap.size (by rfl) _ #[.int .i64 2, .int .u64 (a : Int), .int .u64 (b : Int), .int .u64 (c : Int), .string i, .string ba, .int .u64 (sg : Int), .int .u64 (on : Int), .string ra, .int .u64 (pv : Int), .int .u64 (nn : Int), .string bo, .slice A n cp] _ _ ((HO.up hg).blk 0 rfl) Try.underlying25 rfl (by kernel_rfl)) ?_; with_reducible rfl)); (· simp only [Act.put, List.setIfInBounds_toArray, List.set_cons_zero, List.set_cons_succ, kw64, kw32]; rfl))
  (refine sD (v := ?_) (a' := ?_) Try.func14 rfl rfl (by rfl) rfl (by kernel_rfl) rfl (by rfl) ?_ ?_ ?_; rotate_left 2; (· intro w1 hg; exact HH.out w1); (· simp only [Act.put, List.setIfInBounds_toArray, List.set_cons_zero, List.set_cons_succ, kw64, kw32]; rfl))
  (refine sB (v := ?_) (a' := ?_) rfl rfl (by rfl) ?_ ?_ ?_; rotate_left 2; (· intro w1 hg; have h9 := (HO.up hg).cell 0 rfl; go_simp; with_reducible rfl); (· simp only [Act.put, List.setIfInBounds_toArray, List.set_cons_zero, List.set_cons_succ, kw64, kw32]; rfl))
  (refine sP (v := ?_) (a' := ?_) rfl rfl (by rfl) ?_ ?_ ?_; rotate_left 2; (· intro w'; go_simp; with_reducible rfl); (· simp only [Act.put, List.setIfInBounds_toArray, List.set_cons_zero, List.set_cons_succ, kw64, kw32]; rfl))
  (refine sP (v := .int .u64 (n : Int)) (a' := ?_) rfl rfl (by rfl) ?_ ?_ ?_; rotate_left 1; (· intro w'; go_simp; first | done | exact hu); (· simp only [Act.put, List.setIfInBounds_toArray, List.set_cons_zero, List.set_cons_succ, kw64, kw32]; rfl))
  (refine sD (v := ?_) (a' := ?_) Try.func33 rfl rfl (by rfl) rfl (by kernel_rfl) rfl (by rfl) ?_ ?_ ?_; rotate_left 2; (· intro w1 hg; exact HN.out w1); (· simp only [Act.put, List.setIfInBounds_toArray, List.set_cons_zero, List.set_cons_succ, kw64, kw32]; rfl))
  (refine sP (v := ?_) (a' := ?_) rfl rfl (by rfl) ?_ ?_ ?_; rotate_left 2; (· intro w'; go_simp; with_reducible rfl); (· simp only [Act.put, List.setIfInBounds_toArray, List.set_cons_zero, List.set_cons_succ, kw64, kw32]; rfl))
  (refine sP (v := ?_) (a' := ?_) rfl rfl (by rfl) ?_ ?_ ?_; rotate_left 2; (· intro w'; go_simp; with_reducible rfl); (· simp only [Act.put, List.setIfInBounds_toArray, List.set_cons_zero, List.set_cons_succ, kw64, kw32]; rfl))
  intro w1 hg
  replace HO := HO.up hg
  clear hg
  have c0 := HO.cell 0 rfl
  go_wp2_with fail
  clear c0
  have HO0 := Lib.hid HO
  clear HO
  have HX := Lib.hid (show ph ++ pt ++ pk ((ks.take 0).map txtP) = ph ++ pt from by
    apply ByteArray.ext
    rw [ByteArray.data_append]
    show (ph ++ pt).data ++ #[] = _
    simp)
  have HSh := Lib.hid (fun j => show (pk ((ks.take j).map txtP)).size ≤ 1033 * 32 by
    refine Nat.le_trans (pk_le _ ?_ ?_) ?_
    · rw [List.any_eq_false]
      intro p hp
      obtain ⟨x, hx, rfl⟩ := List.mem_map.1 hp
      rw [txt_short _ (by have := HSz.out x (List.mem_of_mem_take hx); omega)]; decide
    · intro p hp
      obtain ⟨x, hx, rfl⟩ := List.mem_map.1 hp
      show (0 : Nat) < _; decide
    · rw [List.length_map, List.length_take]; have := HL.out; omega)
  have hl32 := hl
  clear hl hu g0
  go_loopw [26, 3] (fun c26 c3 wr => ∃ j : Nat, c26 = .int .i64 (j : Int) ∧ c3 = .string (ph ++ pt ++ pk ((ks.take j).map txtP)) ∧ Aside0 (j ≤ n) ∧ Aside0 (Below w.heap.size w wr)) (fun c26 _ _ => n - (intOf c26).toNat)
  case atStart => exact ⟨0, rfl, by rw [HX.out], ⟨by omega⟩, ⟨HO0.out.below⟩⟩
  case round =>
    clear HO0
    obtain ⟨j, rfl, rfl, HJ, HB⟩ := hrel
    have hsz := HSh.out j
    have hz0 := HZ.out
    by_cases hlt : j < n
    · have i1 : (j : Int) < (n : Int) := by omega
      have i0 : (0 : Int) ≤ (j : Int) := by omega
      obtain ⟨bk, of, rfl, hcell, _⟩ := C_plF (HC.out _ HB.out) (by omega)
      obtain ⟨x, hx⟩ : ∃ x, ks[j]? = some x := ⟨_, List.getElem?_eq_getElem (by have := HNN.out; omega)⟩
      have c0 := hcell j x hx
      have hx32 := HSz.out x (List.mem_of_getElem? hx)
      have HT := Lib.hid (fun w1 => text08 x w1 (by omega))
      have zt := oneS_le (txtP x) (txt_short _ (by omega)) (show (0 : Nat) < 18446744073709551616 by decide)
      have HACC := Lib.hid (show ph ++ pt ++ pk ((ks.take (j + 1)).map txtP) = ph ++ pt ++ pk ((ks.take j).map txtP) ++ oneS (txtP x) by
        rw [List.take_add_one, hx, List.map_append, pk_app, ← ByteArray.append_assoc]
        show _ ++ pk [txtP x] = _
        rw [pk_one])
      have HK2 := Lib.hid (show j + 1 ≤ n by omega)
      have hg : ¬ ((ph ++ pt ++ pk ((ks.take j).map txtP)).size + (oneS (txtP x)).size > 9223372036854775807) := by rw [ByteArray.size_append]; omega
      clear hx hcell zt hsz hz0 hx32
      generalize ph ++ pt ++ pk ((ks.take j).map txtP) = acc at *
      generalize oneS (txtP x) = ot at *
      go_wp2_with fail
      refine (HT.out _).mono ?_
      rintro e w3 ⟨rfl, hb⟩
      replace HB := Aside0.mk (HB.out.trans (Below.mono hb HB.out.size))
      clear hb c0
      go_wp2
      go_roundw
      case rel => exact ⟨j + 1, by go_num, by rw [HACC.out], ⟨HK2.out⟩, HB⟩
      case measure => simp [intOf]; omega
    · have hj : j = n := by have := HJ.out; omega
      have i1 : ¬ ((j : Int) < (n : Int)) := by omega
      have HEnd := Lib.hid (show ph ++ pt ++ pk ((ks.take j).map txtP) = ph ++ pt ++ pk (ks.map txtP) by rw [List.take_of_length_le (by have := HNN.out; omega)])
      clear hj hsz hz0 hlt
      generalize ph ++ pt ++ pk ((ks.take j).map txtP) = acc at *
      go_wp2
      go_ret
      exact ⟨by rw [← HEnd.out]; rfl, HB.out⟩
theorem RPut_any (f : FrD) (A : Option Addr) (cp : Nat) (w : World) (ho : okF f) (hr : rightF f = true) (hC : Kd.string.C w A f.keys.length f.keys) :
    Calls Try.prog 13 #[frV f (.slice A f.keys.length cp)] w fun e w' => e = .returned (.string (pk (partsP f))) ∧ Below w.heap.size w w' := by
  obtain ⟨h1, h2, _⟩ := right_parts f hr
  obtain ⟨kd, a, b, c, i, ba, sg, on, ra, pv, nn, bo, ks⟩ := f
  dsimp only at *
  have hk : kd = 0 ∨ kd = 1 ∨ kd = 2 := by omega
  rcases hk with rfl | rfl | rfl
  · exact RPut_0 a b c i ba sg on ra pv nn bo ks A ks.length cp w ho hr
  · exact RPut_1 a b c i ba sg on ra pv nn bo ks A ks.length cp w ho hr
  · exact RPut_2 a b c i ba sg on ra pv nn bo ks A cp w ho hr hC
end Go.Proofs.Ytfghjahmnjghgaa

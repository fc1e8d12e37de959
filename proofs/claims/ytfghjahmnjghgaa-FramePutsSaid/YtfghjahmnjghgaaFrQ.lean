import Derived.Test.YtfghjahmnjghgaaFrM
import Derived.Test.YtfghjahmnjghgaaFrN
set_option linter.unusedSimpArgs false
set_option linter.unusedVariables false
/- LAYER 8: FramePuts. -/
namespace Go.Proofs.Ytfghjahmnjghgaa
open Go.RowKit Go.Proofs.YtfghjahmnjghgaaW.PrintWords
theorem take_C {A : Option Addr} {n k : Nat} {xs : List ByteArray} {w : World} (h : Kd.string.C w A n xs) : Kd.string.C w A (min n k) (xs.take k) := by
  obtain ⟨h1, h2, h3⟩ := h
  refine ⟨by simp; omega, by omega, fun hp => ?_⟩
  obtain ⟨ad, e, hc⟩ := h3 (by omega)
  exact ⟨ad, e, fun j p hj => hc j p (by rw [List.getElem?_take] at hj; split at hj <;> first | exact hj | cases hj)⟩
attribute [local irreducible] Calls
set_option maxHeartbeats 4000000 in
set_option maxRecDepth 100000 in
theorem few08 (kd : Int) (a : Nat) (b : Nat) (c : Nat) (i : ByteArray) (ba : ByteArray) (sg : Nat) (on : Nat) (ra : ByteArray) (pv : Nat) (nn : Nat) (bo : ByteArray) (A : Option Addr) (n cp : Nat) (w : World) (hc : n ≤ cp) :
    Calls Try.prog 5 #[.agg #[.int .i64 kd, .int .u64 (a : Int), .int .u64 (b : Int), .int .u64 (c : Int), .string i, .string ba, .int .u64 (sg : Int), .int .u64 (on : Int), .string ra, .int .u64 (pv : Int), .int .u64 (nn : Int), .string bo, .slice A n cp]] w fun e w' => e = .returned (.agg #[.int .i64 kd, .int .u64 (a : Int), .int .u64 (b : Int), .int .u64 (c : Int), .string i, .string ba, .int .u64 (sg : Int), .int .u64 (on : Int), .string ra, .int .u64 (pv : Int), .int .u64 (nn : Int), .string bo, .slice A (min n 34) cp]) ∧ Below w.heap.size w w' := by
  obtain ⟨m, hm⟩ : ∃ m, m = min n 34 := ⟨_, rfl⟩
  rw [← hm]
  have hm1 : min (n : Int) 34 = (m : Int) := by omega
  have hm2 : (0 : Int) ≤ (m : Int) := by omega
  have hm3 : (m : Int) ≤ (n : Int) := by omega
  have hm4 : (m : Int) ≤ (cp : Int) := by omega
  clear hm
  have HO := ((Own.start w).alloc' (.cells #[.int .i64 kd, .int .u64 (a : Int), .int .u64 (b : Int), .int .u64 (c : Int), .string i, .string ba, .int .u64 (sg : Int), .int .u64 (on : Int), .string ra, .int .u64 (pv : Int), .int .u64 (nn : Int), .string bo, .slice A n cp] 25) rfl).alloc' (.cells #[.int .i64 0, .int .u64 0, .int .u64 0, .int .u64 0, .string ⟨#[]⟩, .string ⟨#[]⟩, .int .u64 0, .int .u64 0, .string ⟨#[]⟩, .int .u64 0, .int .u64 0, .string ⟨#[]⟩, .slice none 0 0] 25) (by simp : _ = w.heap.size + 1)
  have c1 := HO.cell 1 rfl 12
  have f1 := HO.frozen 1 rfl 12
  go_enter Try.func5, Try.ntmps5
  have HO1 := HO.set' 1 rfl 12 (.slice A m cp) (L' := [(w.heap.size + 1, .cells #[.int .i64 0, .int .u64 0, .int .u64 0, .int .u64 0, .string ⟨#[]⟩, .string ⟨#[]⟩, .int .u64 0, .int .u64 0, .string ⟨#[]⟩, .int .u64 0, .int .u64 0, .string ⟨#[]⟩, .slice none 0 0] 25 (0, 0)), (w.heap.size, .cells #[.int .i64 kd, .int .u64 (a : Int), .int .u64 (b : Int), .int .u64 (c : Int), .string i, .string ba, .int .u64 (sg : Int), .int .u64 (on : Int), .string ra, .int .u64 (pv : Int), .int .u64 (nn : Int), .string bo, .slice A m cp] 25 (0, 0))]) rfl
  go_wp2_with (first | (refine wpList_load_row rfl 25 (.tmp 1) rfl w.heap.size (by rfl) _ #[.int .i64 kd, .int .u64 (a : Int), .int .u64 (b : Int), .int .u64 (c : Int), .string i, .string ba, .int .u64 (sg : Int), .int .u64 (on : Int), .string ra, .int .u64 (pv : Int), .int .u64 (nn : Int), .string bo, .slice A m cp] _ _ (HO1.blk 1 rfl) Try.underlying25 rfl (by kernel_rfl) ?_) | (refine wpList_store_row rfl 25 (.tmp 2) (.tmp 11) rfl (w.heap.size + 1) #[.int .i64 kd, .int .u64 (a : Int), .int .u64 (b : Int), .int .u64 (c : Int), .string i, .string ba, .int .u64 (sg : Int), .int .u64 (on : Int), .string ra, .int .u64 (pv : Int), .int .u64 (nn : Int), .string bo, .slice A m cp] (by rfl) (by rfl) _ _ (HO1.blk 0 rfl) (by kernel_rfl) rfl (frC_one _ _ _ _ _ _ _ _ _ _ _ _ _ _ _) ?_))
  have HO2 := ((Own.start w).alloc' (.cells #[.int .i64 kd, .int .u64 (a : Int), .int .u64 (b : Int), .int .u64 (c : Int), .string i, .string ba, .int .u64 (sg : Int), .int .u64 (on : Int), .string ra, .int .u64 (pv : Int), .int .u64 (nn : Int), .string bo, .slice A m cp] 25) rfl).alloc' (.cells #[.int .i64 kd, .int .u64 (a : Int), .int .u64 (b : Int), .int .u64 (c : Int), .string i, .string ba, .int .u64 (sg : Int), .int .u64 (on : Int), .string ra, .int .u64 (pv : Int), .int .u64 (nn : Int), .string bo, .slice A m cp] 25) (by simp : _ = w.heap.size + 1)
  exact bodyPost_ret (v := .agg #[.int .i64 kd, .int .u64 (a : Int), .int .u64 (b : Int), .int .u64 (c : Int), .string i, .string ba, .int .u64 (sg : Int), .int .u64 (on : Int), .string ra, .int .u64 (pv : Int), .int .u64 (nn : Int), .string bo, .slice A m cp]) (results_cell_row Try.results5 _ _ (w.heap.size + 1) 25 _ (0, 0) _ (by rfl) (HO2.blk 0 rfl) Try.underlying25 rfl (by kernel_rfl)) rfl ⟨rfl, HO2.below⟩
def alF : FrD := ⟨2, 1, 2, 3, ⟨#[]⟩, ⟨#[]⟩, 0, 0, ⟨#[]⟩, 0, 0, ⟨#[]⟩, []⟩
theorem alF_pk : ((pk (partsP alF)).toList == [1, 2, 1, 1, 1, 2, 1, 3, 0]) = true := by
  have e : (pk (partsP alF)).toList = packL (partsP alF) := by rw [ByteArray.toList_eq]; rfl
  rw [e]
  decide +kernel
set_option maxHeartbeats 1000000 in
theorem alive08 (w : World) : Calls Try.prog 12 #[] w fun e w' => e = .returned (.bool true) ∧ Below w.heap.size w w' := by
  have HP := Lib.hid (show Calls Try.prog 6 #[.agg #[.int .i64 2, .int .u64 1, .int .u64 2, .int .u64 3, .string ⟨#[]⟩, .string ⟨#[]⟩, .int .u64 0, .int .u64 0, .string ⟨#[]⟩, .int .u64 0, .int .u64 0, .string ⟨#[]⟩, .slice none 0 0]] w (fun e w' => e = .returned (.tuple #[.string (pk (partsP alF)), .int .i64 0]) ∧ Below w.heap.size w w') from FPut_yes alF (by unfold okF alF; decide) none 0 w (C_zero _ _ _) (Nat.le_refl 0) (by decide) (by decide))
  have hal := alF_pk
  generalize pk (partsP alF) = r at *
  go_enter Try.func12, Try.ntmps12
  go_wp2_with fail
  refine HP.out.mono ?_
  rintro e w1 ⟨rfl, hb⟩
  go_wp2
  go_ret
  exact ⟨rfl, hb⟩
set_option maxHeartbeats 8000000 in
set_option maxRecDepth 100000 in
theorem FramePuts_no (kd : Int) (a : Nat) (b : Nat) (c : Nat) (i : ByteArray) (ba : ByteArray) (sg : Nat) (on : Nat) (ra : ByteArray) (pv : Nat) (nn : Nat) (bo : ByteArray) (kd2 : Int) (a2 : Nat) (b2 : Nat) (c2 : Nat) (i2 : ByteArray) (ba2 : ByteArray) (sg2 : Nat) (on2 : Nat) (ra2 : ByteArray) (pv2 : Nat) (nn2 : Nat) (bo2 : ByteArray) (A B : Option Addr) (ks ls : List ByteArray) (n cp l dp : Nat) (W : World) (hC : Kd.string.C W A n ks) (hc : n ≤ cp) (hD : Kd.string.C W B l ls) (hd : l ≤ dp) (ho : okF ⟨kd, a, b, c, i, ba, sg, on, ra, pv, nn, bo, ks.take 34⟩) (hr : rightF ⟨kd, a, b, c, i, ba, sg, on, ra, pv, nn, bo, ks.take 34⟩ = false) :
    Calls Try.prog 3 #[.agg #[.int .i64 kd, .int .u64 (a : Int), .int .u64 (b : Int), .int .u64 (c : Int), .string i, .string ba, .int .u64 (sg : Int), .int .u64 (on : Int), .string ra, .int .u64 (pv : Int), .int .u64 (nn : Int), .string bo, .slice A n cp], .agg #[.int .i64 kd2, .int .u64 (a2 : Int), .int .u64 (b2 : Int), .int .u64 (c2 : Int), .string i2, .string ba2, .int .u64 (sg2 : Int), .int .u64 (on2 : Int), .string ra2, .int .u64 (pv2 : Int), .int .u64 (nn2 : Int), .string bo2, .slice B l dp]] W fun e W' => e = .returned (.bool true) ∧ Below W.heap.size W W' := by
  have HFa := Lib.hid (fun w1 => few08 kd a b c i ba sg on ra pv nn bo A n cp w1 hc)
  have HFb := Lib.hid (fun w1 => few08 kd2 a2 b2 c2 i2 ba2 sg2 on2 ra2 pv2 nn2 bo2 B l dp w1 hd)
  have hC' := take_C (k := 34) hC
  have hD' := take_C (k := 34) hD
  have hm : min n 34 = (ks.take 34).length := hC'.1.symm
  have hq : min l 34 = (ls.take 34).length := hD'.1.symm
  have hm34 : (ks.take 34).length ≤ 1000000 := by rw [List.length_take]; omega
  have hmc : (ks.take 34).length ≤ cp := by rw [← hm]; omega
  have hqd : (ls.take 34).length ≤ dp := by rw [← hq]; omega
  rw [hm] at hC' HFa
  rw [hq] at hD' HFb
  have HR := Lib.hid (fun w1 (hg : Below W.heap.size W w1) => show Calls Try.prog 8 #[.agg #[.int .i64 kd, .int .u64 (a : Int), .int .u64 (b : Int), .int .u64 (c : Int), .string i, .string ba, .int .u64 (sg : Int), .int .u64 (on : Int), .string ra, .int .u64 (pv : Int), .int .u64 (nn : Int), .string bo, .slice A (ks.take 34).length cp]] w1 (fun e w' => e = .returned (.bool (rightF ⟨kd, a, b, c, i, ba, sg, on, ra, pv, nn, bo, ks.take 34⟩)) ∧ Below w1.heap.size w1 w') from Right_any ⟨kd, a, b, c, i, ba, sg, on, ra, pv, nn, bo, ks.take 34⟩ A cp w1 (Kd.C_below hC' hg) hmc hm34)
  have HRR := Lib.hid (fun w1 (hg : Below W.heap.size W w1) => show Calls Try.prog 9 #[.agg #[.int .i64 kd, .int .u64 (a : Int), .int .u64 (b : Int), .int .u64 (c : Int), .string i, .string ba, .int .u64 (sg : Int), .int .u64 (on : Int), .string ra, .int .u64 (pv : Int), .int .u64 (nn : Int), .string bo, .slice A (ks.take 34).length cp]] w1 (fun e w' => e = .returned (.bool (rightF ⟨kd, a, b, c, i, ba, sg, on, ra, pv, nn, bo, ks.take 34⟩)) ∧ Below w1.heap.size w1 w') from RRight_fr ⟨kd, a, b, c, i, ba, sg, on, ra, pv, nn, bo, ks.take 34⟩ A cp w1 (Kd.C_below hC' hg) hmc hm34)
  have HLab := Lib.hid (fun w1 (hg : Below W.heap.size W w1) => show Calls Try.prog 10 #[.agg #[.int .i64 kd, .int .u64 (a : Int), .int .u64 (b : Int), .int .u64 (c : Int), .string i, .string ba, .int .u64 (sg : Int), .int .u64 (on : Int), .string ra, .int .u64 (pv : Int), .int .u64 (nn : Int), .string bo, .slice A (ks.take 34).length cp], .agg #[.int .i64 kd2, .int .u64 (a2 : Int), .int .u64 (b2 : Int), .int .u64 (c2 : Int), .string i2, .string ba2, .int .u64 (sg2 : Int), .int .u64 (on2 : Int), .string ra2, .int .u64 (pv2 : Int), .int .u64 (nn2 : Int), .string bo2, .slice B (ls.take 34).length dp]] w1 (fun e w' => e = .returned (.bool (likeF ⟨kd, a, b, c, i, ba, sg, on, ra, pv, nn, bo, ks.take 34⟩ ⟨kd2, a2, b2, c2, i2, ba2, sg2, on2, ra2, pv2, nn2, bo2, ls.take 34⟩)) ∧ Below w1.heap.size w1 w') from Like_any ⟨kd, a, b, c, i, ba, sg, on, ra, pv, nn, bo, ks.take 34⟩ ⟨kd2, a2, b2, c2, i2, ba2, sg2, on2, ra2, pv2, nn2, bo2, ls.take 34⟩ A cp B dp w1 (Kd.C_below hC' hg) hmc (Kd.C_below hD' hg) hqd hm34)
  have HSab := Lib.hid (fun w1 (hg : Below W.heap.size W w1) => show Calls Try.prog 11 #[.agg #[.int .i64 kd, .int .u64 (a : Int), .int .u64 (b : Int), .int .u64 (c : Int), .string i, .string ba, .int .u64 (sg : Int), .int .u64 (on : Int), .string ra, .int .u64 (pv : Int), .int .u64 (nn : Int), .string bo, .slice A (ks.take 34).length cp], .agg #[.int .i64 kd2, .int .u64 (a2 : Int), .int .u64 (b2 : Int), .int .u64 (c2 : Int), .string i2, .string ba2, .int .u64 (sg2 : Int), .int .u64 (on2 : Int), .string ra2, .int .u64 (pv2 : Int), .int .u64 (nn2 : Int), .string bo2, .slice B (ls.take 34).length dp]] w1 (fun e w' => e = .returned (.bool (likeF ⟨kd, a, b, c, i, ba, sg, on, ra, pv, nn, bo, ks.take 34⟩ ⟨kd2, a2, b2, c2, i2, ba2, sg2, on2, ra2, pv2, nn2, bo2, ls.take 34⟩)) ∧ Below w1.heap.size w1 w') from RSame_fr ⟨kd, a, b, c, i, ba, sg, on, ra, pv, nn, bo, ks.take 34⟩ ⟨kd2, a2, b2, c2, i2, ba2, sg2, on2, ra2, pv2, nn2, bo2, ls.take 34⟩ A cp B dp w1 (Kd.C_below hC' hg) hmc (Kd.C_below hD' hg) hqd hm34)
  have HLaa := Lib.hid (fun w1 (hg : Below W.heap.size W w1) => show Calls Try.prog 10 #[.agg #[.int .i64 kd, .int .u64 (a : Int), .int .u64 (b : Int), .int .u64 (c : Int), .string i, .string ba, .int .u64 (sg : Int), .int .u64 (on : Int), .string ra, .int .u64 (pv : Int), .int .u64 (nn : Int), .string bo, .slice A (ks.take 34).length cp], .agg #[.int .i64 kd, .int .u64 (a : Int), .int .u64 (b : Int), .int .u64 (c : Int), .string i, .string ba, .int .u64 (sg : Int), .int .u64 (on : Int), .string ra, .int .u64 (pv : Int), .int .u64 (nn : Int), .string bo, .slice A (ks.take 34).length cp]] w1 (fun e w' => e = .returned (.bool (likeF ⟨kd, a, b, c, i, ba, sg, on, ra, pv, nn, bo, ks.take 34⟩ ⟨kd, a, b, c, i, ba, sg, on, ra, pv, nn, bo, ks.take 34⟩)) ∧ Below w1.heap.size w1 w') from Like_any ⟨kd, a, b, c, i, ba, sg, on, ra, pv, nn, bo, ks.take 34⟩ ⟨kd, a, b, c, i, ba, sg, on, ra, pv, nn, bo, ks.take 34⟩ A cp A cp w1 (Kd.C_below hC' hg) hmc (Kd.C_below hC' hg) hmc hm34)
  rw [show likeF ⟨kd, a, b, c, i, ba, sg, on, ra, pv, nn, bo, ks.take 34⟩ ⟨kd, a, b, c, i, ba, sg, on, ra, pv, nn, bo, ks.take 34⟩ = true from decide_eq_true rfl] at HLaa
  rw [hr] at HR HRR
  have HAl := Lib.hid (fun w1 => alive08 w1)
  have HP := Lib.hid (fun w1 (hg : Below W.heap.size W w1) => show Calls Try.prog 6 #[.agg #[.int .i64 kd, .int .u64 (a : Int), .int .u64 (b : Int), .int .u64 (c : Int), .string i, .string ba, .int .u64 (sg : Int), .int .u64 (on : Int), .string ra, .int .u64 (pv : Int), .int .u64 (nn : Int), .string bo, .slice A (ks.take 34).length cp]] w1 (fun e w' => e = .returned (.tuple #[.string ⟨#[]⟩, .int .i64 1]) ∧ Below w1.heap.size w1 w') from FPut_no ⟨kd, a, b, c, i, ba, sg, on, ra, pv, nn, bo, ks.take 34⟩ A cp w1 (Kd.C_below hC' hg) hmc hm34 hr)
  have HH := Lib.hid (fun w1 (hg : Below W.heap.size W w1) => show Calls Try.prog 7 #[.agg #[.int .i64 kd, .int .u64 (a : Int), .int .u64 (b : Int), .int .u64 (c : Int), .string i, .string ba, .int .u64 (sg : Int), .int .u64 (on : Int), .string ra, .int .u64 (pv : Int), .int .u64 (nn : Int), .string bo, .slice A (ks.take 34).length cp]] w1 (fun e w' => e = .returned (.tuple #[.string ⟨#[]⟩, .int .i64 1]) ∧ Below w1.heap.size w1 w') from FHead_no ⟨kd, a, b, c, i, ba, sg, on, ra, pv, nn, bo, ks.take 34⟩ A cp w1 (Kd.C_below hC' hg) hmc hm34 hr)
  have hee : (⟨#[]⟩ : ByteArray) ++ ⟨#[]⟩ = ⟨#[]⟩ := rfl
  generalize likeF ⟨kd, a, b, c, i, ba, sg, on, ra, pv, nn, bo, ks.take 34⟩ ⟨kd2, a2, b2, c2, i2, ba2, sg2, on2, ra2, pv2, nn2, bo2, ls.take 34⟩ = lab at *
  clear hC hD hc hd ho hr hm hq hm34 hmc hqd hC' hD'
  generalize (ks.take 34).length = m at *
  generalize (ls.take 34).length = q at *
  have HO := ((Own.start W).alloc' (.cells #[.int .i64 kd, .int .u64 (a : Int), .int .u64 (b : Int), .int .u64 (c : Int), .string i, .string ba, .int .u64 (sg : Int), .int .u64 (on : Int), .string ra, .int .u64 (pv : Int), .int .u64 (nn : Int), .string bo, .slice A n cp] 25) rfl).alloc' (.cells #[.int .i64 kd2, .int .u64 (a2 : Int), .int .u64 (b2 : Int), .int .u64 (c2 : Int), .string i2, .string ba2, .int .u64 (sg2 : Int), .int .u64 (on2 : Int), .string ra2, .int .u64 (pv2 : Int), .int .u64 (nn2 : Int), .string bo2, .slice B l dp] 25) (by simp : _ = W.heap.size + 1)
  go_enter Try.func3, Try.ntmps3
  go_wp2_with fail
  refine bstart (fun _ => W.heap.size) (n := 6) (ds := [4, 5]) #[false, false, false, false, false, false] (by kernel_rfl) rfl rfl HO.below.size (fun HBS => ?_)
  refine bseq (m := 2) (.inl rfl) [(0, false, some 9), (1, false, some 10), (2, false, some 11), (3, false, some 12)] #[true, true, true, true, false, false] HBS (by kernel_rfl) rfl (fun _ _ _ _ _ h => h) ?_
  (refine sL (v := ?_) (a' := ?_) rfl rfl (by rfl) ?_ ?_ ?_; rotate_left 2; (· intro w1 hg; (refine Eq.trans (run_load_row 25 (.tmp 2) rfl W.heap.size (by rfl) _ #[.int .i64 kd, .int .u64 (a : Int), .int .u64 (b : Int), .int .u64 (c : Int), .string i, .string ba, .int .u64 (sg : Int), .int .u64 (on : Int), .string ra, .int .u64 (pv : Int), .int .u64 (nn : Int), .string bo, .slice A n cp] _ _ ((HO.up hg).blk 1 rfl) Try.underlying25 rfl (by kernel_rfl)) ?_; with_reducible rfl)); (· simp only [Act.put, List.setIfInBounds_toArray, List.set_cons_zero, List.set_cons_succ, kw64, kw32]; rfl))
  (refine sC (v := ?_) (a' := ?_) Try.func5 rfl rfl (by rfl) rfl (by kernel_rfl) rfl (by rfl) ?_ ?_ ?_; rotate_left 2; (· intro w1 hg; exact HFa.out w1); (· simp only [Act.put, List.setIfInBounds_toArray, List.set_cons_zero, List.set_cons_succ, kw64, kw32]; rfl))
  (refine sL (v := ?_) (a' := ?_) rfl rfl (by rfl) ?_ ?_ ?_; rotate_left 2; (· intro w1 hg; (refine Eq.trans (run_load_row 25 (.tmp 3) rfl (W.heap.size + 1) (by rfl) _ #[.int .i64 kd2, .int .u64 (a2 : Int), .int .u64 (b2 : Int), .int .u64 (c2 : Int), .string i2, .string ba2, .int .u64 (sg2 : Int), .int .u64 (on2 : Int), .string ra2, .int .u64 (pv2 : Int), .int .u64 (nn2 : Int), .string bo2, .slice B l dp] _ _ ((HO.up hg).blk 0 rfl) Try.underlying25 rfl (by kernel_rfl)) ?_; with_reducible rfl)); (· simp only [Act.put, List.setIfInBounds_toArray, List.set_cons_zero, List.set_cons_succ, kw64, kw32]; rfl))
  (refine sC (v := ?_) (a' := ?_) Try.func5 rfl rfl (by rfl) rfl (by kernel_rfl) rfl (by rfl) ?_ ?_ ?_; rotate_left 2; (· intro w1 hg; exact HFb.out w1); (· simp only [Act.put, List.setIfInBounds_toArray, List.set_cons_zero, List.set_cons_succ, kw64, kw32]; rfl))
  refine bone (i := 4) (N := none) #[true, true, true, true, true, false] rfl rfl (by kernel_rfl) HBS (fun w1 hg K hK => ?_)
  rw [if_pos (by rfl)]
  replace HO := HO.up hg
  refine wp_store_row 25 (.tmp 2) (.tmp 10) rfl W.heap.size #[.int .i64 kd, .int .u64 (a : Int), .int .u64 (b : Int), .int .u64 (c : Int), .string i, .string ba, .int .u64 (sg : Int), .int .u64 (on : Int), .string ra, .int .u64 (pv : Int), .int .u64 (nn : Int), .string bo, .slice A m cp] (by rfl) (by rfl) _ _ (HO.blk 1 rfl) (by kernel_rfl) rfl (frC_one _ _ _ _ _ _ _ _ _ _ _ _ _ _ _) ?_
  refine hK _ _ (in_ds (by decide) (bel_setRow (by omega) _)) (fun HBS => ?_)
  replace HO := HO.setRow 1 rfl #[.int .i64 kd, .int .u64 (a : Int), .int .u64 (b : Int), .int .u64 (c : Int), .string i, .string ba, .int .u64 (sg : Int), .int .u64 (on : Int), .string ra, .int .u64 (pv : Int), .int .u64 (nn : Int), .string bo, .slice A m cp] (L' := [(W.heap.size + 1, .cells #[.int .i64 kd2, .int .u64 (a2 : Int), .int .u64 (b2 : Int), .int .u64 (c2 : Int), .string i2, .string ba2, .int .u64 (sg2 : Int), .int .u64 (on2 : Int), .string ra2, .int .u64 (pv2 : Int), .int .u64 (nn2 : Int), .string bo2, .slice B l dp] 25 (0, 0)), (W.heap.size, .cells #[.int .i64 kd, .int .u64 (a : Int), .int .u64 (b : Int), .int .u64 (c : Int), .string i, .string ba, .int .u64 (sg : Int), .int .u64 (on : Int), .string ra, .int .u64 (pv : Int), .int .u64 (nn : Int), .string bo, .slice A m cp] 25 (0, 0))]) rfl
  clear hg K hK
  revert HO HBS
  generalize World.setRow w1 _ _ = wb
  intro HBS HO
  refine bone (i := 5) (N := none) #[true, true, true, true, true, true] rfl rfl (by kernel_rfl) HBS (fun w1 hg K hK => ?_)
  rw [if_pos (by rfl)]
  replace HO := HO.up hg
  refine wp_store_row 25 (.tmp 3) (.tmp 12) rfl (W.heap.size + 1) #[.int .i64 kd2, .int .u64 (a2 : Int), .int .u64 (b2 : Int), .int .u64 (c2 : Int), .string i2, .string ba2, .int .u64 (sg2 : Int), .int .u64 (on2 : Int), .string ra2, .int .u64 (pv2 : Int), .int .u64 (nn2 : Int), .string bo2, .slice B q dp] (by rfl) (by rfl) _ _ (HO.blk 0 rfl) (by kernel_rfl) rfl (frC_one _ _ _ _ _ _ _ _ _ _ _ _ _ _ _) ?_
  refine hK _ _ (in_ds (by decide) (bel_setRow (by omega) _)) (fun HBS => ?_)
  replace HO := HO.setRow 0 rfl #[.int .i64 kd2, .int .u64 (a2 : Int), .int .u64 (b2 : Int), .int .u64 (c2 : Int), .string i2, .string ba2, .int .u64 (sg2 : Int), .int .u64 (on2 : Int), .string ra2, .int .u64 (pv2 : Int), .int .u64 (nn2 : Int), .string bo2, .slice B q dp] (L' := [(W.heap.size + 1, .cells #[.int .i64 kd2, .int .u64 (a2 : Int), .int .u64 (b2 : Int), .int .u64 (c2 : Int), .string i2, .string ba2, .int .u64 (sg2 : Int), .int .u64 (on2 : Int), .string ra2, .int .u64 (pv2 : Int), .int .u64 (nn2 : Int), .string bo2, .slice B q dp] 25 (0, 0)), (W.heap.size, .cells #[.int .i64 kd, .int .u64 (a : Int), .int .u64 (b : Int), .int .u64 (c : Int), .string i, .string ba, .int .u64 (sg : Int), .int .u64 (on : Int), .string ra, .int .u64 (pv : Int), .int .u64 (nn : Int), .string bo, .slice A m cp] 25 (0, 0))]) rfl
  clear hg K hK
  revert HO HBS
  generalize World.setRow w1 _ _ = wb
  intro HBS HO
  refine bdone (by kernel_rfl) (fun w1 hg => ?_)
  replace HO := HO.up hg
  clear hg HFa HFb
  have c1 := HO.cell 1 rfl
  go_wp2_with fail
  refine (HP.out _ HO.below).mono ?_
  rintro e w3 ⟨rfl, hb⟩
  replace HO := HO.up hb
  clear hb c1
  have c1 := HO.cell 1 rfl
  go_wp2_with fail
  refine (HH.out _ HO.below).mono ?_
  rintro e w3 ⟨rfl, hb⟩
  replace HO := HO.up hb
  clear hb c1
  cases lab with
  | false =>
    go_wp2_with fail
    refine kall [(0, true, some 23), (1, true, some 24), (2, true, some 25), (3, true, some 26), (4, true, some 27), (5, true, some 28), (6, true, some 29), (7, true, some 30), (8, true, some 31), (9, true, some 32), (10, true, some 33), (11, true, some 34), (12, true, some 35), (13, true, some 36), (14, true, some 37), (15, true, some 38), (16, true, some 39), (17, true, some 40), (18, true, some 41), (19, true, some 42), (20, true, some 43), (21, true, some 44), (22, true, some 45), (23, true, some 46)] (by kernel_rfl) rfl (by kernel_rfl) rfl (fun _ _ _ _ _ h => h) ?_
    (refine sB (v := ?_) (a' := ?_) rfl rfl (by rfl) ?_ ?_ ?_; rotate_left 2; (· intro w1 hg; (refine Eq.trans (run_load_row 25 (.tmp 2) rfl W.heap.size (by rfl) _ #[.int .i64 kd, .int .u64 (a : Int), .int .u64 (b : Int), .int .u64 (c : Int), .string i, .string ba, .int .u64 (sg : Int), .int .u64 (on : Int), .string ra, .int .u64 (pv : Int), .int .u64 (nn : Int), .string bo, .slice A m cp] _ _ ((HO.up hg).blk 1 rfl) Try.underlying25 rfl (by kernel_rfl)) ?_; with_reducible rfl)); (· simp only [Act.put, List.setIfInBounds_toArray, List.set_cons_zero, List.set_cons_succ, kw64, kw32]; rfl))
    (refine sD (v := ?_) (a' := ?_) Try.func8 rfl rfl (by rfl) rfl (by kernel_rfl) rfl (by rfl) ?_ ?_ ?_; rotate_left 2; (· intro w1 hg; exact HR.out w1 (HO.up hg).below); (· simp only [Act.put, List.setIfInBounds_toArray, List.set_cons_zero, List.set_cons_succ, kw64, kw32]; rfl))
    (refine sB (v := ?_) (a' := ?_) rfl rfl (by rfl) ?_ ?_ ?_; rotate_left 2; (· intro w1 hg; (refine Eq.trans (run_load_row 25 (.tmp 2) rfl W.heap.size (by rfl) _ #[.int .i64 kd, .int .u64 (a : Int), .int .u64 (b : Int), .int .u64 (c : Int), .string i, .string ba, .int .u64 (sg : Int), .int .u64 (on : Int), .string ra, .int .u64 (pv : Int), .int .u64 (nn : Int), .string bo, .slice A m cp] _ _ ((HO.up hg).blk 1 rfl) Try.underlying25 rfl (by kernel_rfl)) ?_; with_reducible rfl)); (· simp only [Act.put, List.setIfInBounds_toArray, List.set_cons_zero, List.set_cons_succ, kw64, kw32]; rfl))
    (refine sD (v := ?_) (a' := ?_) Try.func9 rfl rfl (by rfl) rfl (by kernel_rfl) rfl (by rfl) ?_ ?_ ?_; rotate_left 2; (· intro w1 hg; exact HRR.out w1 (HO.up hg).below); (· simp only [Act.put, List.setIfInBounds_toArray, List.set_cons_zero, List.set_cons_succ, kw64, kw32]; rfl))
    (refine sP (v := ?_) (a' := ?_) rfl rfl (by rfl) ?_ ?_ ?_; rotate_left 2; (· intro w'; go_simp; with_reducible rfl); (· simp only [Act.put, List.setIfInBounds_toArray, List.set_cons_zero, List.set_cons_succ, kw64, kw32]; rfl))
    (refine sP (v := ?_) (a' := ?_) rfl rfl (by rfl) ?_ ?_ ?_; rotate_left 2; (· intro w'; go_simp; with_reducible rfl); (· simp only [Act.put, List.setIfInBounds_toArray, List.set_cons_zero, List.set_cons_succ, kw64, kw32]; rfl))
    (refine sB (v := ?_) (a' := ?_) rfl rfl (by rfl) ?_ ?_ ?_; rotate_left 2; (· intro w1 hg; (refine Eq.trans (run_load_row 25 (.tmp 2) rfl W.heap.size (by rfl) _ #[.int .i64 kd, .int .u64 (a : Int), .int .u64 (b : Int), .int .u64 (c : Int), .string i, .string ba, .int .u64 (sg : Int), .int .u64 (on : Int), .string ra, .int .u64 (pv : Int), .int .u64 (nn : Int), .string bo, .slice A m cp] _ _ ((HO.up hg).blk 1 rfl) Try.underlying25 rfl (by kernel_rfl)) ?_; with_reducible rfl)); (· simp only [Act.put, List.setIfInBounds_toArray, List.set_cons_zero, List.set_cons_succ, kw64, kw32]; rfl))
    (refine sB (v := ?_) (a' := ?_) rfl rfl (by rfl) ?_ ?_ ?_; rotate_left 2; (· intro w1 hg; (refine Eq.trans (run_load_row 25 (.tmp 3) rfl (W.heap.size + 1) (by rfl) _ #[.int .i64 kd2, .int .u64 (a2 : Int), .int .u64 (b2 : Int), .int .u64 (c2 : Int), .string i2, .string ba2, .int .u64 (sg2 : Int), .int .u64 (on2 : Int), .string ra2, .int .u64 (pv2 : Int), .int .u64 (nn2 : Int), .string bo2, .slice B q dp] _ _ ((HO.up hg).blk 0 rfl) Try.underlying25 rfl (by kernel_rfl)) ?_; with_reducible rfl)); (· simp only [Act.put, List.setIfInBounds_toArray, List.set_cons_zero, List.set_cons_succ, kw64, kw32]; rfl))
    (refine sD (v := ?_) (a' := ?_) Try.func10 rfl rfl (by rfl) rfl (by kernel_rfl) rfl (by rfl) ?_ ?_ ?_; rotate_left 2; (· intro w1 hg; exact HLab.out w1 (HO.up hg).below); (· simp only [Act.put, List.setIfInBounds_toArray, List.set_cons_zero, List.set_cons_succ, kw64, kw32]; rfl))
    (refine sB (v := ?_) (a' := ?_) rfl rfl (by rfl) ?_ ?_ ?_; rotate_left 2; (· intro w1 hg; (refine Eq.trans (run_load_row 25 (.tmp 2) rfl W.heap.size (by rfl) _ #[.int .i64 kd, .int .u64 (a : Int), .int .u64 (b : Int), .int .u64 (c : Int), .string i, .string ba, .int .u64 (sg : Int), .int .u64 (on : Int), .string ra, .int .u64 (pv : Int), .int .u64 (nn : Int), .string bo, .slice A m cp] _ _ ((HO.up hg).blk 1 rfl) Try.underlying25 rfl (by kernel_rfl)) ?_; with_reducible rfl)); (· simp only [Act.put, List.setIfInBounds_toArray, List.set_cons_zero, List.set_cons_succ, kw64, kw32]; rfl))
    (refine sB (v := ?_) (a' := ?_) rfl rfl (by rfl) ?_ ?_ ?_; rotate_left 2; (· intro w1 hg; (refine Eq.trans (run_load_row 25 (.tmp 3) rfl (W.heap.size + 1) (by rfl) _ #[.int .i64 kd2, .int .u64 (a2 : Int), .int .u64 (b2 : Int), .int .u64 (c2 : Int), .string i2, .string ba2, .int .u64 (sg2 : Int), .int .u64 (on2 : Int), .string ra2, .int .u64 (pv2 : Int), .int .u64 (nn2 : Int), .string bo2, .slice B q dp] _ _ ((HO.up hg).blk 0 rfl) Try.underlying25 rfl (by kernel_rfl)) ?_; with_reducible rfl)); (· simp only [Act.put, List.setIfInBounds_toArray, List.set_cons_zero, List.set_cons_succ, kw64, kw32]; rfl))
    (refine sD (v := ?_) (a' := ?_) Try.func11 rfl rfl (by rfl) rfl (by kernel_rfl) rfl (by rfl) ?_ ?_ ?_; rotate_left 2; (· intro w1 hg; exact HSab.out w1 (HO.up hg).below); (· simp only [Act.put, List.setIfInBounds_toArray, List.set_cons_zero, List.set_cons_succ, kw64, kw32]; rfl))
    (refine sP (v := ?_) (a' := ?_) rfl rfl (by rfl) ?_ ?_ ?_; rotate_left 2; (· intro w'; go_simp; with_reducible rfl); (· simp only [Act.put, List.setIfInBounds_toArray, List.set_cons_zero, List.set_cons_succ, kw64, kw32]; rfl))
    (refine sP (v := ?_) (a' := ?_) rfl rfl (by rfl) ?_ ?_ ?_; rotate_left 2; (· intro w'; go_simp; with_reducible rfl); (· simp only [Act.put, List.setIfInBounds_toArray, List.set_cons_zero, List.set_cons_succ, kw64, kw32]; rfl))
    (refine sP (v := ?_) (a' := ?_) rfl rfl (by rfl) ?_ ?_ ?_; rotate_left 2; (· intro w'; go_simp; with_reducible rfl); (· simp only [Act.put, List.setIfInBounds_toArray, List.set_cons_zero, List.set_cons_succ, kw64, kw32]; rfl))
    (refine sB (v := ?_) (a' := ?_) rfl rfl (by rfl) ?_ ?_ ?_; rotate_left 2; (· intro w1 hg; (refine Eq.trans (run_load_row 25 (.tmp 2) rfl W.heap.size (by rfl) _ #[.int .i64 kd, .int .u64 (a : Int), .int .u64 (b : Int), .int .u64 (c : Int), .string i, .string ba, .int .u64 (sg : Int), .int .u64 (on : Int), .string ra, .int .u64 (pv : Int), .int .u64 (nn : Int), .string bo, .slice A m cp] _ _ ((HO.up hg).blk 1 rfl) Try.underlying25 rfl (by kernel_rfl)) ?_; with_reducible rfl)); (· simp only [Act.put, List.setIfInBounds_toArray, List.set_cons_zero, List.set_cons_succ, kw64, kw32]; rfl))
    (refine sB (v := ?_) (a' := ?_) rfl rfl (by rfl) ?_ ?_ ?_; rotate_left 2; (· intro w1 hg; (refine Eq.trans (run_load_row 25 (.tmp 2) rfl W.heap.size (by rfl) _ #[.int .i64 kd, .int .u64 (a : Int), .int .u64 (b : Int), .int .u64 (c : Int), .string i, .string ba, .int .u64 (sg : Int), .int .u64 (on : Int), .string ra, .int .u64 (pv : Int), .int .u64 (nn : Int), .string bo, .slice A m cp] _ _ ((HO.up hg).blk 1 rfl) Try.underlying25 rfl (by kernel_rfl)) ?_; with_reducible rfl)); (· simp only [Act.put, List.setIfInBounds_toArray, List.set_cons_zero, List.set_cons_succ, kw64, kw32]; rfl))
    (refine sD (v := ?_) (a' := ?_) Try.func10 rfl rfl (by rfl) rfl (by kernel_rfl) rfl (by rfl) ?_ ?_ ?_; rotate_left 2; (· intro w1 hg; exact HLaa.out w1 (HO.up hg).below); (· simp only [Act.put, List.setIfInBounds_toArray, List.set_cons_zero, List.set_cons_succ, kw64, kw32]; rfl))
    (refine sP (v := ?_) (a' := ?_) rfl rfl (by rfl) ?_ ?_ ?_; rotate_left 2; (· intro w'; go_simp; with_reducible rfl); (· simp only [Act.put, List.setIfInBounds_toArray, List.set_cons_zero, List.set_cons_succ, kw64, kw32]; rfl))
    (refine sP (v := ?_) (a' := ?_) rfl rfl (by rfl) ?_ ?_ ?_; rotate_left 2; (· intro w'; go_simp; with_reducible rfl); (· simp only [Act.put, List.setIfInBounds_toArray, List.set_cons_zero, List.set_cons_succ, kw64, kw32]; rfl))
    (refine sP (v := ?_) (a' := ?_) rfl rfl (by rfl) ?_ ?_ ?_; rotate_left 2; (· intro w'; go_simp; with_reducible rfl); (· simp only [Act.put, List.setIfInBounds_toArray, List.set_cons_zero, List.set_cons_succ, kw64, kw32]; rfl))
    (refine sD (v := ?_) (a' := ?_) Try.func12 rfl rfl (by rfl) rfl (by kernel_rfl) rfl (by rfl) ?_ ?_ ?_; rotate_left 2; (· intro w1 hg; exact HAl.out w1); (· simp only [Act.put, List.setIfInBounds_toArray, List.set_cons_zero, List.set_cons_succ, kw64, kw32]; rfl))
    (refine sP (v := ?_) (a' := ?_) rfl rfl (by rfl) ?_ ?_ ?_; rotate_left 2; (· intro w'; go_simp; with_reducible rfl); (· simp only [Act.put, List.setIfInBounds_toArray, List.set_cons_zero, List.set_cons_succ, kw64, kw32]; rfl))
    (refine sP (v := ?_) (a' := ?_) rfl rfl (by rfl) ?_ ?_ ?_; rotate_left 2; (· intro w'; go_simp; with_reducible rfl); (· simp only [Act.put, List.setIfInBounds_toArray, List.set_cons_zero, List.set_cons_succ, kw64, kw32]; rfl))
    intro w1 hg
    replace HO := HO.up hg
    clear hg
    have c1 := HO.cell 1 rfl
    go_wp2_with fail
    refine (HRR.out _ HO.below).mono ?_
    rintro e w3 ⟨rfl, hb⟩
    replace HO := HO.up hb
    clear hb c1
    go_wp2
    go_ret
    exact ⟨rfl, HO.below⟩
  | true =>
    go_wp2_with fail
    refine kall [(0, true, some 23), (1, true, some 24), (2, true, some 25), (3, true, some 26), (4, true, some 27), (5, true, some 28), (6, true, some 29), (7, true, some 30), (8, true, some 31), (9, true, some 32), (10, true, some 33), (11, true, some 34), (12, true, some 35), (13, true, some 36), (14, true, some 37), (15, true, some 38), (16, true, some 39), (17, true, some 40), (18, true, some 41), (19, true, some 42), (20, true, some 43), (21, true, some 44), (22, true, some 45), (23, true, some 46)] (by kernel_rfl) rfl (by kernel_rfl) rfl (fun _ _ _ _ _ h => h) ?_
    (refine sB (v := ?_) (a' := ?_) rfl rfl (by rfl) ?_ ?_ ?_; rotate_left 2; (· intro w1 hg; (refine Eq.trans (run_load_row 25 (.tmp 2) rfl W.heap.size (by rfl) _ #[.int .i64 kd, .int .u64 (a : Int), .int .u64 (b : Int), .int .u64 (c : Int), .string i, .string ba, .int .u64 (sg : Int), .int .u64 (on : Int), .string ra, .int .u64 (pv : Int), .int .u64 (nn : Int), .string bo, .slice A m cp] _ _ ((HO.up hg).blk 1 rfl) Try.underlying25 rfl (by kernel_rfl)) ?_; with_reducible rfl)); (· simp only [Act.put, List.setIfInBounds_toArray, List.set_cons_zero, List.set_cons_succ, kw64, kw32]; rfl))
    (refine sD (v := ?_) (a' := ?_) Try.func8 rfl rfl (by rfl) rfl (by kernel_rfl) rfl (by rfl) ?_ ?_ ?_; rotate_left 2; (· intro w1 hg; exact HR.out w1 (HO.up hg).below); (· simp only [Act.put, List.setIfInBounds_toArray, List.set_cons_zero, List.set_cons_succ, kw64, kw32]; rfl))
    (refine sB (v := ?_) (a' := ?_) rfl rfl (by rfl) ?_ ?_ ?_; rotate_left 2; (· intro w1 hg; (refine Eq.trans (run_load_row 25 (.tmp 2) rfl W.heap.size (by rfl) _ #[.int .i64 kd, .int .u64 (a : Int), .int .u64 (b : Int), .int .u64 (c : Int), .string i, .string ba, .int .u64 (sg : Int), .int .u64 (on : Int), .string ra, .int .u64 (pv : Int), .int .u64 (nn : Int), .string bo, .slice A m cp] _ _ ((HO.up hg).blk 1 rfl) Try.underlying25 rfl (by kernel_rfl)) ?_; with_reducible rfl)); (· simp only [Act.put, List.setIfInBounds_toArray, List.set_cons_zero, List.set_cons_succ, kw64, kw32]; rfl))
    (refine sD (v := ?_) (a' := ?_) Try.func9 rfl rfl (by rfl) rfl (by kernel_rfl) rfl (by rfl) ?_ ?_ ?_; rotate_left 2; (· intro w1 hg; exact HRR.out w1 (HO.up hg).below); (· simp only [Act.put, List.setIfInBounds_toArray, List.set_cons_zero, List.set_cons_succ, kw64, kw32]; rfl))
    (refine sP (v := ?_) (a' := ?_) rfl rfl (by rfl) ?_ ?_ ?_; rotate_left 2; (· intro w'; go_simp; with_reducible rfl); (· simp only [Act.put, List.setIfInBounds_toArray, List.set_cons_zero, List.set_cons_succ, kw64, kw32]; rfl))
    (refine sP (v := ?_) (a' := ?_) rfl rfl (by rfl) ?_ ?_ ?_; rotate_left 2; (· intro w'; go_simp; with_reducible rfl); (· simp only [Act.put, List.setIfInBounds_toArray, List.set_cons_zero, List.set_cons_succ, kw64, kw32]; rfl))
    (refine sB (v := ?_) (a' := ?_) rfl rfl (by rfl) ?_ ?_ ?_; rotate_left 2; (· intro w1 hg; (refine Eq.trans (run_load_row 25 (.tmp 2) rfl W.heap.size (by rfl) _ #[.int .i64 kd, .int .u64 (a : Int), .int .u64 (b : Int), .int .u64 (c : Int), .string i, .string ba, .int .u64 (sg : Int), .int .u64 (on : Int), .string ra, .int .u64 (pv : Int), .int .u64 (nn : Int), .string bo, .slice A m cp] _ _ ((HO.up hg).blk 1 rfl) Try.underlying25 rfl (by kernel_rfl)) ?_; with_reducible rfl)); (· simp only [Act.put, List.setIfInBounds_toArray, List.set_cons_zero, List.set_cons_succ, kw64, kw32]; rfl))
    (refine sB (v := ?_) (a' := ?_) rfl rfl (by rfl) ?_ ?_ ?_; rotate_left 2; (· intro w1 hg; (refine Eq.trans (run_load_row 25 (.tmp 3) rfl (W.heap.size + 1) (by rfl) _ #[.int .i64 kd2, .int .u64 (a2 : Int), .int .u64 (b2 : Int), .int .u64 (c2 : Int), .string i2, .string ba2, .int .u64 (sg2 : Int), .int .u64 (on2 : Int), .string ra2, .int .u64 (pv2 : Int), .int .u64 (nn2 : Int), .string bo2, .slice B q dp] _ _ ((HO.up hg).blk 0 rfl) Try.underlying25 rfl (by kernel_rfl)) ?_; with_reducible rfl)); (· simp only [Act.put, List.setIfInBounds_toArray, List.set_cons_zero, List.set_cons_succ, kw64, kw32]; rfl))
    (refine sD (v := ?_) (a' := ?_) Try.func10 rfl rfl (by rfl) rfl (by kernel_rfl) rfl (by rfl) ?_ ?_ ?_; rotate_left 2; (· intro w1 hg; exact HLab.out w1 (HO.up hg).below); (· simp only [Act.put, List.setIfInBounds_toArray, List.set_cons_zero, List.set_cons_succ, kw64, kw32]; rfl))
    (refine sB (v := ?_) (a' := ?_) rfl rfl (by rfl) ?_ ?_ ?_; rotate_left 2; (· intro w1 hg; (refine Eq.trans (run_load_row 25 (.tmp 2) rfl W.heap.size (by rfl) _ #[.int .i64 kd, .int .u64 (a : Int), .int .u64 (b : Int), .int .u64 (c : Int), .string i, .string ba, .int .u64 (sg : Int), .int .u64 (on : Int), .string ra, .int .u64 (pv : Int), .int .u64 (nn : Int), .string bo, .slice A m cp] _ _ ((HO.up hg).blk 1 rfl) Try.underlying25 rfl (by kernel_rfl)) ?_; with_reducible rfl)); (· simp only [Act.put, List.setIfInBounds_toArray, List.set_cons_zero, List.set_cons_succ, kw64, kw32]; rfl))
    (refine sB (v := ?_) (a' := ?_) rfl rfl (by rfl) ?_ ?_ ?_; rotate_left 2; (· intro w1 hg; (refine Eq.trans (run_load_row 25 (.tmp 3) rfl (W.heap.size + 1) (by rfl) _ #[.int .i64 kd2, .int .u64 (a2 : Int), .int .u64 (b2 : Int), .int .u64 (c2 : Int), .string i2, .string ba2, .int .u64 (sg2 : Int), .int .u64 (on2 : Int), .string ra2, .int .u64 (pv2 : Int), .int .u64 (nn2 : Int), .string bo2, .slice B q dp] _ _ ((HO.up hg).blk 0 rfl) Try.underlying25 rfl (by kernel_rfl)) ?_; with_reducible rfl)); (· simp only [Act.put, List.setIfInBounds_toArray, List.set_cons_zero, List.set_cons_succ, kw64, kw32]; rfl))
    (refine sD (v := ?_) (a' := ?_) Try.func11 rfl rfl (by rfl) rfl (by kernel_rfl) rfl (by rfl) ?_ ?_ ?_; rotate_left 2; (· intro w1 hg; exact HSab.out w1 (HO.up hg).below); (· simp only [Act.put, List.setIfInBounds_toArray, List.set_cons_zero, List.set_cons_succ, kw64, kw32]; rfl))
    (refine sP (v := ?_) (a' := ?_) rfl rfl (by rfl) ?_ ?_ ?_; rotate_left 2; (· intro w'; go_simp; with_reducible rfl); (· simp only [Act.put, List.setIfInBounds_toArray, List.set_cons_zero, List.set_cons_succ, kw64, kw32]; rfl))
    (refine sP (v := ?_) (a' := ?_) rfl rfl (by rfl) ?_ ?_ ?_; rotate_left 2; (· intro w'; go_simp; with_reducible rfl); (· simp only [Act.put, List.setIfInBounds_toArray, List.set_cons_zero, List.set_cons_succ, kw64, kw32]; rfl))
    (refine sP (v := ?_) (a' := ?_) rfl rfl (by rfl) ?_ ?_ ?_; rotate_left 2; (· intro w'; go_simp; with_reducible rfl); (· simp only [Act.put, List.setIfInBounds_toArray, List.set_cons_zero, List.set_cons_succ, kw64, kw32]; rfl))
    (refine sB (v := ?_) (a' := ?_) rfl rfl (by rfl) ?_ ?_ ?_; rotate_left 2; (· intro w1 hg; (refine Eq.trans (run_load_row 25 (.tmp 2) rfl W.heap.size (by rfl) _ #[.int .i64 kd, .int .u64 (a : Int), .int .u64 (b : Int), .int .u64 (c : Int), .string i, .string ba, .int .u64 (sg : Int), .int .u64 (on : Int), .string ra, .int .u64 (pv : Int), .int .u64 (nn : Int), .string bo, .slice A m cp] _ _ ((HO.up hg).blk 1 rfl) Try.underlying25 rfl (by kernel_rfl)) ?_; with_reducible rfl)); (· simp only [Act.put, List.setIfInBounds_toArray, List.set_cons_zero, List.set_cons_succ, kw64, kw32]; rfl))
    (refine sB (v := ?_) (a' := ?_) rfl rfl (by rfl) ?_ ?_ ?_; rotate_left 2; (· intro w1 hg; (refine Eq.trans (run_load_row 25 (.tmp 2) rfl W.heap.size (by rfl) _ #[.int .i64 kd, .int .u64 (a : Int), .int .u64 (b : Int), .int .u64 (c : Int), .string i, .string ba, .int .u64 (sg : Int), .int .u64 (on : Int), .string ra, .int .u64 (pv : Int), .int .u64 (nn : Int), .string bo, .slice A m cp] _ _ ((HO.up hg).blk 1 rfl) Try.underlying25 rfl (by kernel_rfl)) ?_; with_reducible rfl)); (· simp only [Act.put, List.setIfInBounds_toArray, List.set_cons_zero, List.set_cons_succ, kw64, kw32]; rfl))
    (refine sD (v := ?_) (a' := ?_) Try.func10 rfl rfl (by rfl) rfl (by kernel_rfl) rfl (by rfl) ?_ ?_ ?_; rotate_left 2; (· intro w1 hg; exact HLaa.out w1 (HO.up hg).below); (· simp only [Act.put, List.setIfInBounds_toArray, List.set_cons_zero, List.set_cons_succ, kw64, kw32]; rfl))
    (refine sP (v := ?_) (a' := ?_) rfl rfl (by rfl) ?_ ?_ ?_; rotate_left 2; (· intro w'; go_simp; with_reducible rfl); (· simp only [Act.put, List.setIfInBounds_toArray, List.set_cons_zero, List.set_cons_succ, kw64, kw32]; rfl))
    (refine sP (v := ?_) (a' := ?_) rfl rfl (by rfl) ?_ ?_ ?_; rotate_left 2; (· intro w'; go_simp; with_reducible rfl); (· simp only [Act.put, List.setIfInBounds_toArray, List.set_cons_zero, List.set_cons_succ, kw64, kw32]; rfl))
    (refine sP (v := ?_) (a' := ?_) rfl rfl (by rfl) ?_ ?_ ?_; rotate_left 2; (· intro w'; go_simp; with_reducible rfl); (· simp only [Act.put, List.setIfInBounds_toArray, List.set_cons_zero, List.set_cons_succ, kw64, kw32]; rfl))
    (refine sD (v := ?_) (a' := ?_) Try.func12 rfl rfl (by rfl) rfl (by kernel_rfl) rfl (by rfl) ?_ ?_ ?_; rotate_left 2; (· intro w1 hg; exact HAl.out w1); (· simp only [Act.put, List.setIfInBounds_toArray, List.set_cons_zero, List.set_cons_succ, kw64, kw32]; rfl))
    (refine sP (v := ?_) (a' := ?_) rfl rfl (by rfl) ?_ ?_ ?_; rotate_left 2; (· intro w'; go_simp; with_reducible rfl); (· simp only [Act.put, List.setIfInBounds_toArray, List.set_cons_zero, List.set_cons_succ, kw64, kw32]; rfl))
    (refine sP (v := ?_) (a' := ?_) rfl rfl (by rfl) ?_ ?_ ?_; rotate_left 2; (· intro w'; go_simp; with_reducible rfl); (· simp only [Act.put, List.setIfInBounds_toArray, List.set_cons_zero, List.set_cons_succ, kw64, kw32]; rfl))
    intro w1 hg
    replace HO := HO.up hg
    clear hg
    have c1 := HO.cell 1 rfl
    go_wp2_with fail
    refine (HRR.out _ HO.below).mono ?_
    rintro e w3 ⟨rfl, hb⟩
    replace HO := HO.up hb
    clear hb c1
    go_wp2
    go_ret
    exact ⟨rfl, HO.below⟩
set_option maxHeartbeats 8000000 in
set_option maxRecDepth 100000 in
theorem FramePuts_yes (kd : Int) (a : Nat) (b : Nat) (c : Nat) (i : ByteArray) (ba : ByteArray) (sg : Nat) (on : Nat) (ra : ByteArray) (pv : Nat) (nn : Nat) (bo : ByteArray) (kd2 : Int) (a2 : Nat) (b2 : Nat) (c2 : Nat) (i2 : ByteArray) (ba2 : ByteArray) (sg2 : Nat) (on2 : Nat) (ra2 : ByteArray) (pv2 : Nat) (nn2 : Nat) (bo2 : ByteArray) (A B : Option Addr) (ks ls : List ByteArray) (n cp l dp : Nat) (W : World) (hC : Kd.string.C W A n ks) (hc : n ≤ cp) (hD : Kd.string.C W B l ls) (hd : l ≤ dp) (ho : okF ⟨kd, a, b, c, i, ba, sg, on, ra, pv, nn, bo, ks.take 34⟩) (hr : rightF ⟨kd, a, b, c, i, ba, sg, on, ra, pv, nn, bo, ks.take 34⟩ = true) :
    Calls Try.prog 3 #[.agg #[.int .i64 kd, .int .u64 (a : Int), .int .u64 (b : Int), .int .u64 (c : Int), .string i, .string ba, .int .u64 (sg : Int), .int .u64 (on : Int), .string ra, .int .u64 (pv : Int), .int .u64 (nn : Int), .string bo, .slice A n cp], .agg #[.int .i64 kd2, .int .u64 (a2 : Int), .int .u64 (b2 : Int), .int .u64 (c2 : Int), .string i2, .string ba2, .int .u64 (sg2 : Int), .int .u64 (on2 : Int), .string ra2, .int .u64 (pv2 : Int), .int .u64 (nn2 : Int), .string bo2, .slice B l dp]] W fun e W' => e = .returned (.bool true) ∧ Below W.heap.size W W' := by
  have HFa := Lib.hid (fun w1 => few08 kd a b c i ba sg on ra pv nn bo A n cp w1 hc)
  have HFb := Lib.hid (fun w1 => few08 kd2 a2 b2 c2 i2 ba2 sg2 on2 ra2 pv2 nn2 bo2 B l dp w1 hd)
  have hC' := take_C (k := 34) hC
  have hD' := take_C (k := 34) hD
  have hm : min n 34 = (ks.take 34).length := hC'.1.symm
  have hq : min l 34 = (ls.take 34).length := hD'.1.symm
  have hm34 : (ks.take 34).length ≤ 1000000 := by rw [List.length_take]; omega
  have hmc : (ks.take 34).length ≤ cp := by rw [← hm]; omega
  have hqd : (ls.take 34).length ≤ dp := by rw [← hq]; omega
  rw [hm] at hC' HFa
  rw [hq] at hD' HFb
  have HR := Lib.hid (fun w1 (hg : Below W.heap.size W w1) => show Calls Try.prog 8 #[.agg #[.int .i64 kd, .int .u64 (a : Int), .int .u64 (b : Int), .int .u64 (c : Int), .string i, .string ba, .int .u64 (sg : Int), .int .u64 (on : Int), .string ra, .int .u64 (pv : Int), .int .u64 (nn : Int), .string bo, .slice A (ks.take 34).length cp]] w1 (fun e w' => e = .returned (.bool (rightF ⟨kd, a, b, c, i, ba, sg, on, ra, pv, nn, bo, ks.take 34⟩)) ∧ Below w1.heap.size w1 w') from Right_any ⟨kd, a, b, c, i, ba, sg, on, ra, pv, nn, bo, ks.take 34⟩ A cp w1 (Kd.C_below hC' hg) hmc hm34)
  have HRR := Lib.hid (fun w1 (hg : Below W.heap.size W w1) => show Calls Try.prog 9 #[.agg #[.int .i64 kd, .int .u64 (a : Int), .int .u64 (b : Int), .int .u64 (c : Int), .string i, .string ba, .int .u64 (sg : Int), .int .u64 (on : Int), .string ra, .int .u64 (pv : Int), .int .u64 (nn : Int), .string bo, .slice A (ks.take 34).length cp]] w1 (fun e w' => e = .returned (.bool (rightF ⟨kd, a, b, c, i, ba, sg, on, ra, pv, nn, bo, ks.take 34⟩)) ∧ Below w1.heap.size w1 w') from RRight_fr ⟨kd, a, b, c, i, ba, sg, on, ra, pv, nn, bo, ks.take 34⟩ A cp w1 (Kd.C_below hC' hg) hmc hm34)
  have HLab := Lib.hid (fun w1 (hg : Below W.heap.size W w1) => show Calls Try.prog 10 #[.agg #[.int .i64 kd, .int .u64 (a : Int), .int .u64 (b : Int), .int .u64 (c : Int), .string i, .string ba, .int .u64 (sg : Int), .int .u64 (on : Int), .string ra, .int .u64 (pv : Int), .int .u64 (nn : Int), .string bo, .slice A (ks.take 34).length cp], .agg #[.int .i64 kd2, .int .u64 (a2 : Int), .int .u64 (b2 : Int), .int .u64 (c2 : Int), .string i2, .string ba2, .int .u64 (sg2 : Int), .int .u64 (on2 : Int), .string ra2, .int .u64 (pv2 : Int), .int .u64 (nn2 : Int), .string bo2, .slice B (ls.take 34).length dp]] w1 (fun e w' => e = .returned (.bool (likeF ⟨kd, a, b, c, i, ba, sg, on, ra, pv, nn, bo, ks.take 34⟩ ⟨kd2, a2, b2, c2, i2, ba2, sg2, on2, ra2, pv2, nn2, bo2, ls.take 34⟩)) ∧ Below w1.heap.size w1 w') from Like_any ⟨kd, a, b, c, i, ba, sg, on, ra, pv, nn, bo, ks.take 34⟩ ⟨kd2, a2, b2, c2, i2, ba2, sg2, on2, ra2, pv2, nn2, bo2, ls.take 34⟩ A cp B dp w1 (Kd.C_below hC' hg) hmc (Kd.C_below hD' hg) hqd hm34)
  have HSab := Lib.hid (fun w1 (hg : Below W.heap.size W w1) => show Calls Try.prog 11 #[.agg #[.int .i64 kd, .int .u64 (a : Int), .int .u64 (b : Int), .int .u64 (c : Int), .string i, .string ba, .int .u64 (sg : Int), .int .u64 (on : Int), .string ra, .int .u64 (pv : Int), .int .u64 (nn : Int), .string bo, .slice A (ks.take 34).length cp], .agg #[.int .i64 kd2, .int .u64 (a2 : Int), .int .u64 (b2 : Int), .int .u64 (c2 : Int), .string i2, .string ba2, .int .u64 (sg2 : Int), .int .u64 (on2 : Int), .string ra2, .int .u64 (pv2 : Int), .int .u64 (nn2 : Int), .string bo2, .slice B (ls.take 34).length dp]] w1 (fun e w' => e = .returned (.bool (likeF ⟨kd, a, b, c, i, ba, sg, on, ra, pv, nn, bo, ks.take 34⟩ ⟨kd2, a2, b2, c2, i2, ba2, sg2, on2, ra2, pv2, nn2, bo2, ls.take 34⟩)) ∧ Below w1.heap.size w1 w') from RSame_fr ⟨kd, a, b, c, i, ba, sg, on, ra, pv, nn, bo, ks.take 34⟩ ⟨kd2, a2, b2, c2, i2, ba2, sg2, on2, ra2, pv2, nn2, bo2, ls.take 34⟩ A cp B dp w1 (Kd.C_below hC' hg) hmc (Kd.C_below hD' hg) hqd hm34)
  have HLaa := Lib.hid (fun w1 (hg : Below W.heap.size W w1) => show Calls Try.prog 10 #[.agg #[.int .i64 kd, .int .u64 (a : Int), .int .u64 (b : Int), .int .u64 (c : Int), .string i, .string ba, .int .u64 (sg : Int), .int .u64 (on : Int), .string ra, .int .u64 (pv : Int), .int .u64 (nn : Int), .string bo, .slice A (ks.take 34).length cp], .agg #[.int .i64 kd, .int .u64 (a : Int), .int .u64 (b : Int), .int .u64 (c : Int), .string i, .string ba, .int .u64 (sg : Int), .int .u64 (on : Int), .string ra, .int .u64 (pv : Int), .int .u64 (nn : Int), .string bo, .slice A (ks.take 34).length cp]] w1 (fun e w' => e = .returned (.bool (likeF ⟨kd, a, b, c, i, ba, sg, on, ra, pv, nn, bo, ks.take 34⟩ ⟨kd, a, b, c, i, ba, sg, on, ra, pv, nn, bo, ks.take 34⟩)) ∧ Below w1.heap.size w1 w') from Like_any ⟨kd, a, b, c, i, ba, sg, on, ra, pv, nn, bo, ks.take 34⟩ ⟨kd, a, b, c, i, ba, sg, on, ra, pv, nn, bo, ks.take 34⟩ A cp A cp w1 (Kd.C_below hC' hg) hmc (Kd.C_below hC' hg) hmc hm34)
  rw [show likeF ⟨kd, a, b, c, i, ba, sg, on, ra, pv, nn, bo, ks.take 34⟩ ⟨kd, a, b, c, i, ba, sg, on, ra, pv, nn, bo, ks.take 34⟩ = true from decide_eq_true rfl] at HLaa
  rw [hr] at HR HRR
  have HAl := Lib.hid (fun w1 => alive08 w1)
  have HP := Lib.hid (fun w1 (hg : Below W.heap.size W w1) => show Calls Try.prog 6 #[.agg #[.int .i64 kd, .int .u64 (a : Int), .int .u64 (b : Int), .int .u64 (c : Int), .string i, .string ba, .int .u64 (sg : Int), .int .u64 (on : Int), .string ra, .int .u64 (pv : Int), .int .u64 (nn : Int), .string bo, .slice A (ks.take 34).length cp]] w1 (fun e w' => e = .returned (.tuple #[.string (pk (partsP ⟨kd, a, b, c, i, ba, sg, on, ra, pv, nn, bo, ks.take 34⟩)), .int .i64 0]) ∧ Below w1.heap.size w1 w') from FPut_yes ⟨kd, a, b, c, i, ba, sg, on, ra, pv, nn, bo, ks.take 34⟩ ho A cp w1 (Kd.C_below hC' hg) hmc hm34 hr)
  have HH := Lib.hid (fun w1 (hg : Below W.heap.size W w1) => show Calls Try.prog 7 #[.agg #[.int .i64 kd, .int .u64 (a : Int), .int .u64 (b : Int), .int .u64 (c : Int), .string i, .string ba, .int .u64 (sg : Int), .int .u64 (on : Int), .string ra, .int .u64 (pv : Int), .int .u64 (nn : Int), .string bo, .slice A (ks.take 34).length cp]] w1 (fun e w' => e = .returned (.tuple #[.string (pk (headP ⟨kd, a, b, c, i, ba, sg, on, ra, pv, nn, bo, ks.take 34⟩)), .int .i64 0]) ∧ Below w1.heap.size w1 w') from FHead_yes ⟨kd, a, b, c, i, ba, sg, on, ra, pv, nn, bo, ks.take 34⟩ ho A cp w1 (Kd.C_below hC' hg) hmc hm34 hr)
  have HRP := Lib.hid (fun w1 (hg : Below W.heap.size W w1) => show Calls Try.prog 13 #[.agg #[.int .i64 kd, .int .u64 (a : Int), .int .u64 (b : Int), .int .u64 (c : Int), .string i, .string ba, .int .u64 (sg : Int), .int .u64 (on : Int), .string ra, .int .u64 (pv : Int), .int .u64 (nn : Int), .string bo, .slice A (ks.take 34).length cp]] w1 (fun e w' => e = .returned (.string (pk (partsP ⟨kd, a, b, c, i, ba, sg, on, ra, pv, nn, bo, ks.take 34⟩))) ∧ Below w1.heap.size w1 w') from RPut_any ⟨kd, a, b, c, i, ba, sg, on, ra, pv, nn, bo, ks.take 34⟩ A cp w1 ho hr (Kd.C_below hC' hg))
  have HRH := Lib.hid (fun w1 => show Calls Try.prog 14 #[.agg #[.int .i64 kd, .int .u64 (a : Int), .int .u64 (b : Int), .int .u64 (c : Int), .string i, .string ba, .int .u64 (sg : Int), .int .u64 (on : Int), .string ra, .int .u64 (pv : Int), .int .u64 (nn : Int), .string bo, .slice A (ks.take 34).length cp]] w1 (fun e w' => e = .returned (.string (pk (headP ⟨kd, a, b, c, i, ba, sg, on, ra, pv, nn, bo, ks.take 34⟩))) ∧ Below w1.heap.size w1 w') from RHead_any ⟨kd, a, b, c, i, ba, sg, on, ra, pv, nn, bo, ks.take 34⟩ A (ks.take 34).length cp w1 ho hr)
  generalize pk (partsP ⟨kd, a, b, c, i, ba, sg, on, ra, pv, nn, bo, ks.take 34⟩) = xp at *
  generalize pk (headP ⟨kd, a, b, c, i, ba, sg, on, ra, pv, nn, bo, ks.take 34⟩) = xh at *
  have x1 : (xp.toList == xp.toList) = true := by simp
  have x2 : (xh.toList == xh.toList) = true := by simp
  generalize likeF ⟨kd, a, b, c, i, ba, sg, on, ra, pv, nn, bo, ks.take 34⟩ ⟨kd2, a2, b2, c2, i2, ba2, sg2, on2, ra2, pv2, nn2, bo2, ls.take 34⟩ = lab at *
  clear hC hD hc hd ho hr hm hq hm34 hmc hqd hC' hD'
  generalize (ks.take 34).length = m at *
  generalize (ls.take 34).length = q at *
  have HO := ((Own.start W).alloc' (.cells #[.int .i64 kd, .int .u64 (a : Int), .int .u64 (b : Int), .int .u64 (c : Int), .string i, .string ba, .int .u64 (sg : Int), .int .u64 (on : Int), .string ra, .int .u64 (pv : Int), .int .u64 (nn : Int), .string bo, .slice A n cp] 25) rfl).alloc' (.cells #[.int .i64 kd2, .int .u64 (a2 : Int), .int .u64 (b2 : Int), .int .u64 (c2 : Int), .string i2, .string ba2, .int .u64 (sg2 : Int), .int .u64 (on2 : Int), .string ra2, .int .u64 (pv2 : Int), .int .u64 (nn2 : Int), .string bo2, .slice B l dp] 25) (by simp : _ = W.heap.size + 1)
  go_enter Try.func3, Try.ntmps3
  go_wp2_with fail
  refine bstart (fun _ => W.heap.size) (n := 6) (ds := [4, 5]) #[false, false, false, false, false, false] (by kernel_rfl) rfl rfl HO.below.size (fun HBS => ?_)
  refine bseq (m := 2) (.inl rfl) [(0, false, some 9), (1, false, some 10), (2, false, some 11), (3, false, some 12)] #[true, true, true, true, false, false] HBS (by kernel_rfl) rfl (fun _ _ _ _ _ h => h) ?_
  (refine sL (v := ?_) (a' := ?_) rfl rfl (by rfl) ?_ ?_ ?_; rotate_left 2; (· intro w1 hg; (refine Eq.trans (run_load_row 25 (.tmp 2) rfl W.heap.size (by rfl) _ #[.int .i64 kd, .int .u64 (a : Int), .int .u64 (b : Int), .int .u64 (c : Int), .string i, .string ba, .int .u64 (sg : Int), .int .u64 (on : Int), .string ra, .int .u64 (pv : Int), .int .u64 (nn : Int), .string bo, .slice A n cp] _ _ ((HO.up hg).blk 1 rfl) Try.underlying25 rfl (by kernel_rfl)) ?_; with_reducible rfl)); (· simp only [Act.put, List.setIfInBounds_toArray, List.set_cons_zero, List.set_cons_succ, kw64, kw32]; rfl))
  (refine sC (v := ?_) (a' := ?_) Try.func5 rfl rfl (by rfl) rfl (by kernel_rfl) rfl (by rfl) ?_ ?_ ?_; rotate_left 2; (· intro w1 hg; exact HFa.out w1); (· simp only [Act.put, List.setIfInBounds_toArray, List.set_cons_zero, List.set_cons_succ, kw64, kw32]; rfl))
  (refine sL (v := ?_) (a' := ?_) rfl rfl (by rfl) ?_ ?_ ?_; rotate_left 2; (· intro w1 hg; (refine Eq.trans (run_load_row 25 (.tmp 3) rfl (W.heap.size + 1) (by rfl) _ #[.int .i64 kd2, .int .u64 (a2 : Int), .int .u64 (b2 : Int), .int .u64 (c2 : Int), .string i2, .string ba2, .int .u64 (sg2 : Int), .int .u64 (on2 : Int), .string ra2, .int .u64 (pv2 : Int), .int .u64 (nn2 : Int), .string bo2, .slice B l dp] _ _ ((HO.up hg).blk 0 rfl) Try.underlying25 rfl (by kernel_rfl)) ?_; with_reducible rfl)); (· simp only [Act.put, List.setIfInBounds_toArray, List.set_cons_zero, List.set_cons_succ, kw64, kw32]; rfl))
  (refine sC (v := ?_) (a' := ?_) Try.func5 rfl rfl (by rfl) rfl (by kernel_rfl) rfl (by rfl) ?_ ?_ ?_; rotate_left 2; (· intro w1 hg; exact HFb.out w1); (· simp only [Act.put, List.setIfInBounds_toArray, List.set_cons_zero, List.set_cons_succ, kw64, kw32]; rfl))
  refine bone (i := 4) (N := none) #[true, true, true, true, true, false] rfl rfl (by kernel_rfl) HBS (fun w1 hg K hK => ?_)
  rw [if_pos (by rfl)]
  replace HO := HO.up hg
  refine wp_store_row 25 (.tmp 2) (.tmp 10) rfl W.heap.size #[.int .i64 kd, .int .u64 (a : Int), .int .u64 (b : Int), .int .u64 (c : Int), .string i, .string ba, .int .u64 (sg : Int), .int .u64 (on : Int), .string ra, .int .u64 (pv : Int), .int .u64 (nn : Int), .string bo, .slice A m cp] (by rfl) (by rfl) _ _ (HO.blk 1 rfl) (by kernel_rfl) rfl (frC_one _ _ _ _ _ _ _ _ _ _ _ _ _ _ _) ?_
  refine hK _ _ (in_ds (by decide) (bel_setRow (by omega) _)) (fun HBS => ?_)
  replace HO := HO.setRow 1 rfl #[.int .i64 kd, .int .u64 (a : Int), .int .u64 (b : Int), .int .u64 (c : Int), .string i, .string ba, .int .u64 (sg : Int), .int .u64 (on : Int), .string ra, .int .u64 (pv : Int), .int .u64 (nn : Int), .string bo, .slice A m cp] (L' := [(W.heap.size + 1, .cells #[.int .i64 kd2, .int .u64 (a2 : Int), .int .u64 (b2 : Int), .int .u64 (c2 : Int), .string i2, .string ba2, .int .u64 (sg2 : Int), .int .u64 (on2 : Int), .string ra2, .int .u64 (pv2 : Int), .int .u64 (nn2 : Int), .string bo2, .slice B l dp] 25 (0, 0)), (W.heap.size, .cells #[.int .i64 kd, .int .u64 (a : Int), .int .u64 (b : Int), .int .u64 (c : Int), .string i, .string ba, .int .u64 (sg : Int), .int .u64 (on : Int), .string ra, .int .u64 (pv : Int), .int .u64 (nn : Int), .string bo, .slice A m cp] 25 (0, 0))]) rfl
  clear hg K hK
  revert HO HBS
  generalize World.setRow w1 _ _ = wb
  intro HBS HO
  refine bone (i := 5) (N := none) #[true, true, true, true, true, true] rfl rfl (by kernel_rfl) HBS (fun w1 hg K hK => ?_)
  rw [if_pos (by rfl)]
  replace HO := HO.up hg
  refine wp_store_row 25 (.tmp 3) (.tmp 12) rfl (W.heap.size + 1) #[.int .i64 kd2, .int .u64 (a2 : Int), .int .u64 (b2 : Int), .int .u64 (c2 : Int), .string i2, .string ba2, .int .u64 (sg2 : Int), .int .u64 (on2 : Int), .string ra2, .int .u64 (pv2 : Int), .int .u64 (nn2 : Int), .string bo2, .slice B q dp] (by rfl) (by rfl) _ _ (HO.blk 0 rfl) (by kernel_rfl) rfl (frC_one _ _ _ _ _ _ _ _ _ _ _ _ _ _ _) ?_
  refine hK _ _ (in_ds (by decide) (bel_setRow (by omega) _)) (fun HBS => ?_)
  replace HO := HO.setRow 0 rfl #[.int .i64 kd2, .int .u64 (a2 : Int), .int .u64 (b2 : Int), .int .u64 (c2 : Int), .string i2, .string ba2, .int .u64 (sg2 : Int), .int .u64 (on2 : Int), .string ra2, .int .u64 (pv2 : Int), .int .u64 (nn2 : Int), .string bo2, .slice B q dp] (L' := [(W.heap.size + 1, .cells #[.int .i64 kd2, .int .u64 (a2 : Int), .int .u64 (b2 : Int), .int .u64 (c2 : Int), .string i2, .string ba2, .int .u64 (sg2 : Int), .int .u64 (on2 : Int), .string ra2, .int .u64 (pv2 : Int), .int .u64 (nn2 : Int), .string bo2, .slice B q dp] 25 (0, 0)), (W.heap.size, .cells #[.int .i64 kd, .int .u64 (a : Int), .int .u64 (b : Int), .int .u64 (c : Int), .string i, .string ba, .int .u64 (sg : Int), .int .u64 (on : Int), .string ra, .int .u64 (pv : Int), .int .u64 (nn : Int), .string bo, .slice A m cp] 25 (0, 0))]) rfl
  clear hg K hK
  revert HO HBS
  generalize World.setRow w1 _ _ = wb
  intro HBS HO
  refine bdone (by kernel_rfl) (fun w1 hg => ?_)
  replace HO := HO.up hg
  clear hg HFa HFb
  have c1 := HO.cell 1 rfl
  go_wp2_with fail
  refine (HP.out _ HO.below).mono ?_
  rintro e w3 ⟨rfl, hb⟩
  replace HO := HO.up hb
  clear hb c1
  have c1 := HO.cell 1 rfl
  go_wp2_with fail
  refine (HH.out _ HO.below).mono ?_
  rintro e w3 ⟨rfl, hb⟩
  replace HO := HO.up hb
  clear hb c1
  cases lab with
  | false =>
    go_wp2_with fail
    refine kall [(0, true, some 23), (1, true, some 24), (2, true, some 25), (3, true, some 26), (4, true, some 27), (5, true, some 28), (6, true, some 29), (7, true, some 30), (8, true, some 31), (9, true, some 32), (10, true, some 33), (11, true, some 34), (12, true, some 35), (13, true, some 36), (14, true, some 37), (15, true, some 38), (16, true, some 39), (17, true, some 40), (18, true, some 41), (19, true, some 42), (20, true, some 43), (21, true, some 44), (22, true, some 45), (23, true, some 46)] (by kernel_rfl) rfl (by kernel_rfl) rfl (fun _ _ _ _ _ h => h) ?_
    (refine sB (v := ?_) (a' := ?_) rfl rfl (by rfl) ?_ ?_ ?_; rotate_left 2; (· intro w1 hg; (refine Eq.trans (run_load_row 25 (.tmp 2) rfl W.heap.size (by rfl) _ #[.int .i64 kd, .int .u64 (a : Int), .int .u64 (b : Int), .int .u64 (c : Int), .string i, .string ba, .int .u64 (sg : Int), .int .u64 (on : Int), .string ra, .int .u64 (pv : Int), .int .u64 (nn : Int), .string bo, .slice A m cp] _ _ ((HO.up hg).blk 1 rfl) Try.underlying25 rfl (by kernel_rfl)) ?_; with_reducible rfl)); (· simp only [Act.put, List.setIfInBounds_toArray, List.set_cons_zero, List.set_cons_succ, kw64, kw32]; rfl))
    (refine sD (v := ?_) (a' := ?_) Try.func8 rfl rfl (by rfl) rfl (by kernel_rfl) rfl (by rfl) ?_ ?_ ?_; rotate_left 2; (· intro w1 hg; exact HR.out w1 (HO.up hg).below); (· simp only [Act.put, List.setIfInBounds_toArray, List.set_cons_zero, List.set_cons_succ, kw64, kw32]; rfl))
    (refine sB (v := ?_) (a' := ?_) rfl rfl (by rfl) ?_ ?_ ?_; rotate_left 2; (· intro w1 hg; (refine Eq.trans (run_load_row 25 (.tmp 2) rfl W.heap.size (by rfl) _ #[.int .i64 kd, .int .u64 (a : Int), .int .u64 (b : Int), .int .u64 (c : Int), .string i, .string ba, .int .u64 (sg : Int), .int .u64 (on : Int), .string ra, .int .u64 (pv : Int), .int .u64 (nn : Int), .string bo, .slice A m cp] _ _ ((HO.up hg).blk 1 rfl) Try.underlying25 rfl (by kernel_rfl)) ?_; with_reducible rfl)); (· simp only [Act.put, List.setIfInBounds_toArray, List.set_cons_zero, List.set_cons_succ, kw64, kw32]; rfl))
    (refine sD (v := ?_) (a' := ?_) Try.func9 rfl rfl (by rfl) rfl (by kernel_rfl) rfl (by rfl) ?_ ?_ ?_; rotate_left 2; (· intro w1 hg; exact HRR.out w1 (HO.up hg).below); (· simp only [Act.put, List.setIfInBounds_toArray, List.set_cons_zero, List.set_cons_succ, kw64, kw32]; rfl))
    (refine sP (v := ?_) (a' := ?_) rfl rfl (by rfl) ?_ ?_ ?_; rotate_left 2; (· intro w'; go_simp; with_reducible rfl); (· simp only [Act.put, List.setIfInBounds_toArray, List.set_cons_zero, List.set_cons_succ, kw64, kw32]; rfl))
    (refine sP (v := ?_) (a' := ?_) rfl rfl (by rfl) ?_ ?_ ?_; rotate_left 2; (· intro w'; go_simp; with_reducible rfl); (· simp only [Act.put, List.setIfInBounds_toArray, List.set_cons_zero, List.set_cons_succ, kw64, kw32]; rfl))
    (refine sB (v := ?_) (a' := ?_) rfl rfl (by rfl) ?_ ?_ ?_; rotate_left 2; (· intro w1 hg; (refine Eq.trans (run_load_row 25 (.tmp 2) rfl W.heap.size (by rfl) _ #[.int .i64 kd, .int .u64 (a : Int), .int .u64 (b : Int), .int .u64 (c : Int), .string i, .string ba, .int .u64 (sg : Int), .int .u64 (on : Int), .string ra, .int .u64 (pv : Int), .int .u64 (nn : Int), .string bo, .slice A m cp] _ _ ((HO.up hg).blk 1 rfl) Try.underlying25 rfl (by kernel_rfl)) ?_; with_reducible rfl)); (· simp only [Act.put, List.setIfInBounds_toArray, List.set_cons_zero, List.set_cons_succ, kw64, kw32]; rfl))
    (refine sB (v := ?_) (a' := ?_) rfl rfl (by rfl) ?_ ?_ ?_; rotate_left 2; (· intro w1 hg; (refine Eq.trans (run_load_row 25 (.tmp 3) rfl (W.heap.size + 1) (by rfl) _ #[.int .i64 kd2, .int .u64 (a2 : Int), .int .u64 (b2 : Int), .int .u64 (c2 : Int), .string i2, .string ba2, .int .u64 (sg2 : Int), .int .u64 (on2 : Int), .string ra2, .int .u64 (pv2 : Int), .int .u64 (nn2 : Int), .string bo2, .slice B q dp] _ _ ((HO.up hg).blk 0 rfl) Try.underlying25 rfl (by kernel_rfl)) ?_; with_reducible rfl)); (· simp only [Act.put, List.setIfInBounds_toArray, List.set_cons_zero, List.set_cons_succ, kw64, kw32]; rfl))
    (refine sD (v := ?_) (a' := ?_) Try.func10 rfl rfl (by rfl) rfl (by kernel_rfl) rfl (by rfl) ?_ ?_ ?_; rotate_left 2; (· intro w1 hg; exact HLab.out w1 (HO.up hg).below); (· simp only [Act.put, List.setIfInBounds_toArray, List.set_cons_zero, List.set_cons_succ, kw64, kw32]; rfl))
    (refine sB (v := ?_) (a' := ?_) rfl rfl (by rfl) ?_ ?_ ?_; rotate_left 2; (· intro w1 hg; (refine Eq.trans (run_load_row 25 (.tmp 2) rfl W.heap.size (by rfl) _ #[.int .i64 kd, .int .u64 (a : Int), .int .u64 (b : Int), .int .u64 (c : Int), .string i, .string ba, .int .u64 (sg : Int), .int .u64 (on : Int), .string ra, .int .u64 (pv : Int), .int .u64 (nn : Int), .string bo, .slice A m cp] _ _ ((HO.up hg).blk 1 rfl) Try.underlying25 rfl (by kernel_rfl)) ?_; with_reducible rfl)); (· simp only [Act.put, List.setIfInBounds_toArray, List.set_cons_zero, List.set_cons_succ, kw64, kw32]; rfl))
    (refine sB (v := ?_) (a' := ?_) rfl rfl (by rfl) ?_ ?_ ?_; rotate_left 2; (· intro w1 hg; (refine Eq.trans (run_load_row 25 (.tmp 3) rfl (W.heap.size + 1) (by rfl) _ #[.int .i64 kd2, .int .u64 (a2 : Int), .int .u64 (b2 : Int), .int .u64 (c2 : Int), .string i2, .string ba2, .int .u64 (sg2 : Int), .int .u64 (on2 : Int), .string ra2, .int .u64 (pv2 : Int), .int .u64 (nn2 : Int), .string bo2, .slice B q dp] _ _ ((HO.up hg).blk 0 rfl) Try.underlying25 rfl (by kernel_rfl)) ?_; with_reducible rfl)); (· simp only [Act.put, List.setIfInBounds_toArray, List.set_cons_zero, List.set_cons_succ, kw64, kw32]; rfl))
    (refine sD (v := ?_) (a' := ?_) Try.func11 rfl rfl (by rfl) rfl (by kernel_rfl) rfl (by rfl) ?_ ?_ ?_; rotate_left 2; (· intro w1 hg; exact HSab.out w1 (HO.up hg).below); (· simp only [Act.put, List.setIfInBounds_toArray, List.set_cons_zero, List.set_cons_succ, kw64, kw32]; rfl))
    (refine sP (v := ?_) (a' := ?_) rfl rfl (by rfl) ?_ ?_ ?_; rotate_left 2; (· intro w'; go_simp; with_reducible rfl); (· simp only [Act.put, List.setIfInBounds_toArray, List.set_cons_zero, List.set_cons_succ, kw64, kw32]; rfl))
    (refine sP (v := ?_) (a' := ?_) rfl rfl (by rfl) ?_ ?_ ?_; rotate_left 2; (· intro w'; go_simp; with_reducible rfl); (· simp only [Act.put, List.setIfInBounds_toArray, List.set_cons_zero, List.set_cons_succ, kw64, kw32]; rfl))
    (refine sP (v := ?_) (a' := ?_) rfl rfl (by rfl) ?_ ?_ ?_; rotate_left 2; (· intro w'; go_simp; with_reducible rfl); (· simp only [Act.put, List.setIfInBounds_toArray, List.set_cons_zero, List.set_cons_succ, kw64, kw32]; rfl))
    (refine sB (v := ?_) (a' := ?_) rfl rfl (by rfl) ?_ ?_ ?_; rotate_left 2; (· intro w1 hg; (refine Eq.trans (run_load_row 25 (.tmp 2) rfl W.heap.size (by rfl) _ #[.int .i64 kd, .int .u64 (a : Int), .int .u64 (b : Int), .int .u64 (c : Int), .string i, .string ba, .int .u64 (sg : Int), .int .u64 (on : Int), .string ra, .int .u64 (pv : Int), .int .u64 (nn : Int), .string bo, .slice A m cp] _ _ ((HO.up hg).blk 1 rfl) Try.underlying25 rfl (by kernel_rfl)) ?_; with_reducible rfl)); (· simp only [Act.put, List.setIfInBounds_toArray, List.set_cons_zero, List.set_cons_succ, kw64, kw32]; rfl))
    (refine sB (v := ?_) (a' := ?_) rfl rfl (by rfl) ?_ ?_ ?_; rotate_left 2; (· intro w1 hg; (refine Eq.trans (run_load_row 25 (.tmp 2) rfl W.heap.size (by rfl) _ #[.int .i64 kd, .int .u64 (a : Int), .int .u64 (b : Int), .int .u64 (c : Int), .string i, .string ba, .int .u64 (sg : Int), .int .u64 (on : Int), .string ra, .int .u64 (pv : Int), .int .u64 (nn : Int), .string bo, .slice A m cp] _ _ ((HO.up hg).blk 1 rfl) Try.underlying25 rfl (by kernel_rfl)) ?_; with_reducible rfl)); (· simp only [Act.put, List.setIfInBounds_toArray, List.set_cons_zero, List.set_cons_succ, kw64, kw32]; rfl))
    (refine sD (v := ?_) (a' := ?_) Try.func10 rfl rfl (by rfl) rfl (by kernel_rfl) rfl (by rfl) ?_ ?_ ?_; rotate_left 2; (· intro w1 hg; exact HLaa.out w1 (HO.up hg).below); (· simp only [Act.put, List.setIfInBounds_toArray, List.set_cons_zero, List.set_cons_succ, kw64, kw32]; rfl))
    (refine sP (v := ?_) (a' := ?_) rfl rfl (by rfl) ?_ ?_ ?_; rotate_left 2; (· intro w'; go_simp; with_reducible rfl); (· simp only [Act.put, List.setIfInBounds_toArray, List.set_cons_zero, List.set_cons_succ, kw64, kw32]; rfl))
    (refine sP (v := ?_) (a' := ?_) rfl rfl (by rfl) ?_ ?_ ?_; rotate_left 2; (· intro w'; go_simp; with_reducible rfl); (· simp only [Act.put, List.setIfInBounds_toArray, List.set_cons_zero, List.set_cons_succ, kw64, kw32]; rfl))
    (refine sP (v := ?_) (a' := ?_) rfl rfl (by rfl) ?_ ?_ ?_; rotate_left 2; (· intro w'; go_simp; with_reducible rfl); (· simp only [Act.put, List.setIfInBounds_toArray, List.set_cons_zero, List.set_cons_succ, kw64, kw32]; rfl))
    (refine sD (v := ?_) (a' := ?_) Try.func12 rfl rfl (by rfl) rfl (by kernel_rfl) rfl (by rfl) ?_ ?_ ?_; rotate_left 2; (· intro w1 hg; exact HAl.out w1); (· simp only [Act.put, List.setIfInBounds_toArray, List.set_cons_zero, List.set_cons_succ, kw64, kw32]; rfl))
    (refine sP (v := ?_) (a' := ?_) rfl rfl (by rfl) ?_ ?_ ?_; rotate_left 2; (· intro w'; go_simp; with_reducible rfl); (· simp only [Act.put, List.setIfInBounds_toArray, List.set_cons_zero, List.set_cons_succ, kw64, kw32]; rfl))
    (refine sP (v := ?_) (a' := ?_) rfl rfl (by rfl) ?_ ?_ ?_; rotate_left 2; (· intro w'; go_simp; with_reducible rfl); (· simp only [Act.put, List.setIfInBounds_toArray, List.set_cons_zero, List.set_cons_succ, kw64, kw32]; rfl))
    intro w1 hg
    replace HO := HO.up hg
    clear hg
    have c1 := HO.cell 1 rfl
    go_wp2_with fail
    refine (HRR.out _ HO.below).mono ?_
    rintro e w3 ⟨rfl, hb⟩
    replace HO := HO.up hb
    clear hb c1
    have c1 := HO.cell 1 rfl
    go_wp2_with fail
    refine (HRP.out _ HO.below).mono ?_
    rintro e w3 ⟨rfl, hb⟩
    replace HO := HO.up hb
    clear hb c1
    have c1 := HO.cell 1 rfl
    go_wp2_with fail
    refine (HRH.out _).mono ?_
    rintro e w3 ⟨rfl, hb⟩
    replace HO := HO.up hb
    clear hb c1
    go_wp2
    go_ret
    exact ⟨rfl, HO.below⟩
  | true =>
    go_wp2_with fail
    refine kall [(0, true, some 23), (1, true, some 24), (2, true, some 25), (3, true, some 26), (4, true, some 27), (5, true, some 28), (6, true, some 29), (7, true, some 30), (8, true, some 31), (9, true, some 32), (10, true, some 33), (11, true, some 34), (12, true, some 35), (13, true, some 36), (14, true, some 37), (15, true, some 38), (16, true, some 39), (17, true, some 40), (18, true, some 41), (19, true, some 42), (20, true, some 43), (21, true, some 44), (22, true, some 45), (23, true, some 46)] (by kernel_rfl) rfl (by kernel_rfl) rfl (fun _ _ _ _ _ h => h) ?_
    (refine sB (v := ?_) (a' := ?_) rfl rfl (by rfl) ?_ ?_ ?_; rotate_left 2; (· intro w1 hg; (refine Eq.trans (run_load_row 25 (.tmp 2) rfl W.heap.size (by rfl) _ #[.int .i64 kd, .int .u64 (a : Int), .int .u64 (b : Int), .int .u64 (c : Int), .string i, .string ba, .int .u64 (sg : Int), .int .u64 (on : Int), .string ra, .int .u64 (pv : Int), .int .u64 (nn : Int), .string bo, .slice A m cp] _ _ ((HO.up hg).blk 1 rfl) Try.underlying25 rfl (by kernel_rfl)) ?_; with_reducible rfl)); (· simp only [Act.put, List.setIfInBounds_toArray, List.set_cons_zero, List.set_cons_succ, kw64, kw32]; rfl))
    (refine sD (v := ?_) (a' := ?_) Try.func8 rfl rfl (by rfl) rfl (by kernel_rfl) rfl (by rfl) ?_ ?_ ?_; rotate_left 2; (· intro w1 hg; exact HR.out w1 (HO.up hg).below); (· simp only [Act.put, List.setIfInBounds_toArray, List.set_cons_zero, List.set_cons_succ, kw64, kw32]; rfl))
    (refine sB (v := ?_) (a' := ?_) rfl rfl (by rfl) ?_ ?_ ?_; rotate_left 2; (· intro w1 hg; (refine Eq.trans (run_load_row 25 (.tmp 2) rfl W.heap.size (by rfl) _ #[.int .i64 kd, .int .u64 (a : Int), .int .u64 (b : Int), .int .u64 (c : Int), .string i, .string ba, .int .u64 (sg : Int), .int .u64 (on : Int), .string ra, .int .u64 (pv : Int), .int .u64 (nn : Int), .string bo, .slice A m cp] _ _ ((HO.up hg).blk 1 rfl) Try.underlying25 rfl (by kernel_rfl)) ?_; with_reducible rfl)); (· simp only [Act.put, List.setIfInBounds_toArray, List.set_cons_zero, List.set_cons_succ, kw64, kw32]; rfl))
    (refine sD (v := ?_) (a' := ?_) Try.func9 rfl rfl (by rfl) rfl (by kernel_rfl) rfl (by rfl) ?_ ?_ ?_; rotate_left 2; (· intro w1 hg; exact HRR.out w1 (HO.up hg).below); (· simp only [Act.put, List.setIfInBounds_toArray, List.set_cons_zero, List.set_cons_succ, kw64, kw32]; rfl))
    (refine sP (v := ?_) (a' := ?_) rfl rfl (by rfl) ?_ ?_ ?_; rotate_left 2; (· intro w'; go_simp; with_reducible rfl); (· simp only [Act.put, List.setIfInBounds_toArray, List.set_cons_zero, List.set_cons_succ, kw64, kw32]; rfl))
    (refine sP (v := ?_) (a' := ?_) rfl rfl (by rfl) ?_ ?_ ?_; rotate_left 2; (· intro w'; go_simp; with_reducible rfl); (· simp only [Act.put, List.setIfInBounds_toArray, List.set_cons_zero, List.set_cons_succ, kw64, kw32]; rfl))
    (refine sB (v := ?_) (a' := ?_) rfl rfl (by rfl) ?_ ?_ ?_; rotate_left 2; (· intro w1 hg; (refine Eq.trans (run_load_row 25 (.tmp 2) rfl W.heap.size (by rfl) _ #[.int .i64 kd, .int .u64 (a : Int), .int .u64 (b : Int), .int .u64 (c : Int), .string i, .string ba, .int .u64 (sg : Int), .int .u64 (on : Int), .string ra, .int .u64 (pv : Int), .int .u64 (nn : Int), .string bo, .slice A m cp] _ _ ((HO.up hg).blk 1 rfl) Try.underlying25 rfl (by kernel_rfl)) ?_; with_reducible rfl)); (· simp only [Act.put, List.setIfInBounds_toArray, List.set_cons_zero, List.set_cons_succ, kw64, kw32]; rfl))
    (refine sB (v := ?_) (a' := ?_) rfl rfl (by rfl) ?_ ?_ ?_; rotate_left 2; (· intro w1 hg; (refine Eq.trans (run_load_row 25 (.tmp 3) rfl (W.heap.size + 1) (by rfl) _ #[.int .i64 kd2, .int .u64 (a2 : Int), .int .u64 (b2 : Int), .int .u64 (c2 : Int), .string i2, .string ba2, .int .u64 (sg2 : Int), .int .u64 (on2 : Int), .string ra2, .int .u64 (pv2 : Int), .int .u64 (nn2 : Int), .string bo2, .slice B q dp] _ _ ((HO.up hg).blk 0 rfl) Try.underlying25 rfl (by kernel_rfl)) ?_; with_reducible rfl)); (· simp only [Act.put, List.setIfInBounds_toArray, List.set_cons_zero, List.set_cons_succ, kw64, kw32]; rfl))
    (refine sD (v := ?_) (a' := ?_) Try.func10 rfl rfl (by rfl) rfl (by kernel_rfl) rfl (by rfl) ?_ ?_ ?_; rotate_left 2; (· intro w1 hg; exact HLab.out w1 (HO.up hg).below); (· simp only [Act.put, List.setIfInBounds_toArray, List.set_cons_zero, List.set_cons_succ, kw64, kw32]; rfl))
    (refine sB (v := ?_) (a' := ?_) rfl rfl (by rfl) ?_ ?_ ?_; rotate_left 2; (· intro w1 hg; (refine Eq.trans (run_load_row 25 (.tmp 2) rfl W.heap.size (by rfl) _ #[.int .i64 kd, .int .u64 (a : Int), .int .u64 (b : Int), .int .u64 (c : Int), .string i, .string ba, .int .u64 (sg : Int), .int .u64 (on : Int), .string ra, .int .u64 (pv : Int), .int .u64 (nn : Int), .string bo, .slice A m cp] _ _ ((HO.up hg).blk 1 rfl) Try.underlying25 rfl (by kernel_rfl)) ?_; with_reducible rfl)); (· simp only [Act.put, List.setIfInBounds_toArray, List.set_cons_zero, List.set_cons_succ, kw64, kw32]; rfl))
    (refine sB (v := ?_) (a' := ?_) rfl rfl (by rfl) ?_ ?_ ?_; rotate_left 2; (· intro w1 hg; (refine Eq.trans (run_load_row 25 (.tmp 3) rfl (W.heap.size + 1) (by rfl) _ #[.int .i64 kd2, .int .u64 (a2 : Int), .int .u64 (b2 : Int), .int .u64 (c2 : Int), .string i2, .string ba2, .int .u64 (sg2 : Int), .int .u64 (on2 : Int), .string ra2, .int .u64 (pv2 : Int), .int .u64 (nn2 : Int), .string bo2, .slice B q dp] _ _ ((HO.up hg).blk 0 rfl) Try.underlying25 rfl (by kernel_rfl)) ?_; with_reducible rfl)); (· simp only [Act.put, List.setIfInBounds_toArray, List.set_cons_zero, List.set_cons_succ, kw64, kw32]; rfl))
    (refine sD (v := ?_) (a' := ?_) Try.func11 rfl rfl (by rfl) rfl (by kernel_rfl) rfl (by rfl) ?_ ?_ ?_; rotate_left 2; (· intro w1 hg; exact HSab.out w1 (HO.up hg).below); (· simp only [Act.put, List.setIfInBounds_toArray, List.set_cons_zero, List.set_cons_succ, kw64, kw32]; rfl))
    (refine sP (v := ?_) (a' := ?_) rfl rfl (by rfl) ?_ ?_ ?_; rotate_left 2; (· intro w'; go_simp; with_reducible rfl); (· simp only [Act.put, List.setIfInBounds_toArray, List.set_cons_zero, List.set_cons_succ, kw64, kw32]; rfl))
    (refine sP (v := ?_) (a' := ?_) rfl rfl (by rfl) ?_ ?_ ?_; rotate_left 2; (· intro w'; go_simp; with_reducible rfl); (· simp only [Act.put, List.setIfInBounds_toArray, List.set_cons_zero, List.set_cons_succ, kw64, kw32]; rfl))
    (refine sP (v := ?_) (a' := ?_) rfl rfl (by rfl) ?_ ?_ ?_; rotate_left 2; (· intro w'; go_simp; with_reducible rfl); (· simp only [Act.put, List.setIfInBounds_toArray, List.set_cons_zero, List.set_cons_succ, kw64, kw32]; rfl))
    (refine sB (v := ?_) (a' := ?_) rfl rfl (by rfl) ?_ ?_ ?_; rotate_left 2; (· intro w1 hg; (refine Eq.trans (run_load_row 25 (.tmp 2) rfl W.heap.size (by rfl) _ #[.int .i64 kd, .int .u64 (a : Int), .int .u64 (b : Int), .int .u64 (c : Int), .string i, .string ba, .int .u64 (sg : Int), .int .u64 (on : Int), .string ra, .int .u64 (pv : Int), .int .u64 (nn : Int), .string bo, .slice A m cp] _ _ ((HO.up hg).blk 1 rfl) Try.underlying25 rfl (by kernel_rfl)) ?_; with_reducible rfl)); (· simp only [Act.put, List.setIfInBounds_toArray, List.set_cons_zero, List.set_cons_succ, kw64, kw32]; rfl))
    (refine sB (v := ?_) (a' := ?_) rfl rfl (by rfl) ?_ ?_ ?_; rotate_left 2; (· intro w1 hg; (refine Eq.trans (run_load_row 25 (.tmp 2) rfl W.heap.size (by rfl) _ #[.int .i64 kd, .int .u64 (a : Int), .int .u64 (b : Int), .int .u64 (c : Int), .string i, .string ba, .int .u64 (sg : Int), .int .u64 (on : Int), .string ra, .int .u64 (pv : Int), .int .u64 (nn : Int), .string bo, .slice A m cp] _ _ ((HO.up hg).blk 1 rfl) Try.underlying25 rfl (by kernel_rfl)) ?_; with_reducible rfl)); (· simp only [Act.put, List.setIfInBounds_toArray, List.set_cons_zero, List.set_cons_succ, kw64, kw32]; rfl))
    (refine sD (v := ?_) (a' := ?_) Try.func10 rfl rfl (by rfl) rfl (by kernel_rfl) rfl (by rfl) ?_ ?_ ?_; rotate_left 2; (· intro w1 hg; exact HLaa.out w1 (HO.up hg).below); (· simp only [Act.put, List.setIfInBounds_toArray, List.set_cons_zero, List.set_cons_succ, kw64, kw32]; rfl))
    (refine sP (v := ?_) (a' := ?_) rfl rfl (by rfl) ?_ ?_ ?_; rotate_left 2; (· intro w'; go_simp; with_reducible rfl); (· simp only [Act.put, List.setIfInBounds_toArray, List.set_cons_zero, List.set_cons_succ, kw64, kw32]; rfl))
    (refine sP (v := ?_) (a' := ?_) rfl rfl (by rfl) ?_ ?_ ?_; rotate_left 2; (· intro w'; go_simp; with_reducible rfl); (· simp only [Act.put, List.setIfInBounds_toArray, List.set_cons_zero, List.set_cons_succ, kw64, kw32]; rfl))
    (refine sP (v := ?_) (a' := ?_) rfl rfl (by rfl) ?_ ?_ ?_; rotate_left 2; (· intro w'; go_simp; with_reducible rfl); (· simp only [Act.put, List.setIfInBounds_toArray, List.set_cons_zero, List.set_cons_succ, kw64, kw32]; rfl))
    (refine sD (v := ?_) (a' := ?_) Try.func12 rfl rfl (by rfl) rfl (by kernel_rfl) rfl (by rfl) ?_ ?_ ?_; rotate_left 2; (· intro w1 hg; exact HAl.out w1); (· simp only [Act.put, List.setIfInBounds_toArray, List.set_cons_zero, List.set_cons_succ, kw64, kw32]; rfl))
    (refine sP (v := ?_) (a' := ?_) rfl rfl (by rfl) ?_ ?_ ?_; rotate_left 2; (· intro w'; go_simp; with_reducible rfl); (· simp only [Act.put, List.setIfInBounds_toArray, List.set_cons_zero, List.set_cons_succ, kw64, kw32]; rfl))
    (refine sP (v := ?_) (a' := ?_) rfl rfl (by rfl) ?_ ?_ ?_; rotate_left 2; (· intro w'; go_simp; with_reducible rfl); (· simp only [Act.put, List.setIfInBounds_toArray, List.set_cons_zero, List.set_cons_succ, kw64, kw32]; rfl))
    intro w1 hg
    replace HO := HO.up hg
    clear hg
    have c1 := HO.cell 1 rfl
    go_wp2_with fail
    refine (HRR.out _ HO.below).mono ?_
    rintro e w3 ⟨rfl, hb⟩
    replace HO := HO.up hb
    clear hb c1
    have c1 := HO.cell 1 rfl
    go_wp2_with fail
    refine (HRP.out _ HO.below).mono ?_
    rintro e w3 ⟨rfl, hb⟩
    replace HO := HO.up hb
    clear hb c1
    have c1 := HO.cell 1 rfl
    go_wp2_with fail
    refine (HRH.out _).mono ?_
    rintro e w3 ⟨rfl, hb⟩
    replace HO := HO.up hb
    clear hb c1
    go_wp2
    go_ret
    exact ⟨rfl, HO.below⟩
theorem FramePuts_walk (f g : FrD) (A B : Option Addr) (n cp l dp : Nat) (W : World) (hC : Kd.string.C W A n f.keys) (hc : n ≤ cp) (hD : Kd.string.C W B l g.keys) (hd : l ≤ dp) (ho : okF f) :
    Calls Try.prog 3 #[frV f (.slice A n cp), frV g (.slice B l dp)] W fun e W' => e = .returned (.bool true) ∧ Below W.heap.size W W' := by
  obtain ⟨kd, a, b, c, i, ba, sg, on, ra, pv, nn, bo, ks⟩ := f
  obtain ⟨kd2, a2, b2, c2, i2, ba2, sg2, on2, ra2, pv2, nn2, bo2, ls⟩ := g
  dsimp only at *
  cases hr : rightF ⟨kd, a, b, c, i, ba, sg, on, ra, pv, nn, bo, ks.take 34⟩
  · exact FramePuts_no kd a b c i ba sg on ra pv nn bo kd2 a2 b2 c2 i2 ba2 sg2 on2 ra2 pv2 nn2 bo2 A B ks ls n cp l dp W hC hc hD hd ho hr
  · exact FramePuts_yes kd a b c i ba sg on ra pv nn bo kd2 a2 b2 c2 i2 ba2 sg2 on2 ra2 pv2 nn2 bo2 A B ks ls n cp l dp W hC hc hD hd ho hr
end Go.Proofs.Ytfghjahmnjghgaa

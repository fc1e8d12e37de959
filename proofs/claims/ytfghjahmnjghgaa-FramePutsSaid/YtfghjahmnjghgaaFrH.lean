import Derived.Test.YtfghjahmnjghgaaSeq2
import Derived.Test.YtfghjahmnjghgaaFrG
import Derived.Test.YtfghjahmnjghgaaFrF
set_option linter.unusedSimpArgs false
set_option linter.unusedVariables false
/- LAYER 8: whether a frame may be. -/
namespace Go.Proofs.Ytfghjahmnjghgaa
open Go.RowKit Go.Proofs.YtfghjahmnjghgaaW.PrintWords Go.Proofs.YtfghjahmnjghgaaW.PrintLast Go.Proofs.YtfghjahmnjghgaaW.PrintMore Go.Proofs.Ytfghjahmnjghgaa.PFr
theorem C_lit_strF (W : World) (e : TypeId) (l : List ByteArray) (hl : l.length ≤ 1000) : Kd.string.C (W.alloc (.cells (l.map Value.string).toArray e)) (some ⟨W.heap.size, 0, none⟩) l.length l :=
  (Kd.R_reads' (show Kd.string.R e (W.alloc (.cells (l.map Value.string).toArray e)) W.heap.size (fun _ => True) (.slice (some ⟨W.heap.size, 0, none⟩) l.length l.length) l from R_new_lit W W.heap.size e l (Nat.le_refl _) (by omega))).2.2
attribute [local irreducible] Calls
def f1S : ByteArray := ⟨#[116, 116, 110, 110, 116, 110, 110, 116]⟩
def f2S : ByteArray := ⟨#[116, 110, 110, 116]⟩
def f3S : ByteArray := ⟨#[42]⟩
set_option maxHeartbeats 1000000 in
theorem formats_any (w : World) : Calls Try.prog 26 #[] w fun e w' => e = .returned (.agg #[.string f1S, .string f2S, .string f3S]) ∧ Below w.heap.size w w' := by
  unfold f1S f2S f3S
  have HO := (Own.start w).alloc' (.cells #[.string ⟨#[116, 116, 110, 110, 116, 110, 110, 116]⟩, .string ⟨#[116, 110, 110, 116]⟩, .string ⟨#[42]⟩] 50) rfl
  go_enter Try.func26, Try.ntmps26
  go_wp2
  exact bodyPost_ret (v := .agg #[.string ⟨#[116, 116, 110, 110, 116, 110, 110, 116]⟩, .string ⟨#[116, 110, 110, 116]⟩, .string ⟨#[42]⟩]) (results_cell_row Try.results26 _ _ w.heap.size 50 _ (0, 0) _ (by rfl) (HO.blk 0 rfl) Try.underlying50 rfl (by kernel_rfl)) rfl ⟨rfl, HO.below⟩
set_option maxHeartbeats 8000000 in
set_option maxRecDepth 100000 in
theorem Right_neg (kd : Int) (hk : kd < 0) (a b c : Nat) (i ba : ByteArray) (sg on : Nat) (ra : ByteArray) (pv nn : Nat) (bo : ByteArray) (ks : List ByteArray) (A : Option Addr) (cp : Nat) (w : World) (hC : Kd.string.C w A ks.length ks) (hc : ks.length ≤ cp) (hn : ks.length ≤ 1000000) :
    Calls Try.prog 8 #[frV ⟨kd, a, b, c, i, ba, sg, on, ra, pv, nn, bo, ks⟩ (.slice A ks.length cp)] w fun e w' => e = .returned (.bool (rightF ⟨kd, a, b, c, i, ba, sg, on, ra, pv, nn, bo, ks⟩)) ∧ Below w.heap.size w w' := by
  rw [show rightF ⟨kd, a, b, c, i, ba, sg, on, ra, pv, nn, bo, ks⟩ = false from by
    unfold rightF
    dsimp only
    rw [show decide (0 ≤ kd) = false from decide_eq_false (by omega)]; rfl]
  unfold frV frC
  dsimp only
  generalize hnn : ks.length = n at *
  clear hC hc hn hnn
  have HFm := Lib.hid (fun w1 => formats_any w1)
  generalize f1S = s1' at *
  generalize f2S = s2' at *
  generalize f3S = s3' at *
  have k1 : kd < 0 := hk
  have HO := (Own.start w).alloc' (.cells #[.int .i64 kd, .int .u64 (a : Int), .int .u64 (b : Int), .int .u64 (c : Int), .string i, .string ba, .int .u64 (sg : Int), .int .u64 (on : Int), .string ra, .int .u64 (pv : Int), .int .u64 (nn : Int), .string bo, .slice A n cp] 25) rfl
  clear hk
  go_enter Try.func8, Try.ntmps8
  go_wp2_with fail
  refine kall [(0, true, some 5), (1, true, some 6), (2, true, some 7), (3, true, some 8), (4, true, some 9), (5, true, some 10), (6, true, some 11), (7, true, some 12), (8, true, some 13), (9, true, some 14), (10, true, some 15), (11, true, some 16), (12, true, some 17), (13, true, some 18), (14, true, some 19), (15, true, some 20), (16, true, some 21), (17, true, some 22)] (by kernel_rfl) rfl (by kernel_rfl) rfl (fun _ _ _ _ _ h => h) ?_
  (refine sP (v := ?_) (a' := ?_) rfl rfl (by rfl) ?_ ?_ ?_; rotate_left 2; (· intro w'; go_simp; with_reducible rfl); (· simp only [Act.put, List.setIfInBounds_toArray, List.set_cons_zero, List.set_cons_succ, kw64, kw32]; rfl))
  (refine sB (v := ?_) (a' := ?_) rfl rfl (by rfl) ?_ ?_ ?_; rotate_left 2; (· intro w1 hg; have c9 := (HO.up hg).cell 0 rfl; go_simp; with_reducible rfl); (· simp only [Act.put, List.setIfInBounds_toArray, List.set_cons_zero, List.set_cons_succ, kw64, kw32]; rfl))
  (refine sP (v := .bool true) (a' := ?_) rfl rfl (by rfl) ?_ ?_ ?_; rotate_left 1; (· intro w'; go_simp; first | done | rw [decide_eq_true k1]); (· simp only [Act.put, List.setIfInBounds_toArray, List.set_cons_zero, List.set_cons_succ, kw64, kw32]; rfl))
  (refine sP (v := ?_) (a' := ?_) rfl rfl (by rfl) ?_ ?_ ?_; rotate_left 2; (· intro w'; go_simp; with_reducible rfl); (· simp only [Act.put, List.setIfInBounds_toArray, List.set_cons_zero, List.set_cons_succ, kw64, kw32]; rfl))
  (refine sO (a' := ?_) rfl rfl (by rfl) ?_ ?_; rotate_left 1; (· simp only [Act.put, List.setIfInBounds_toArray, List.set_cons_zero, List.set_cons_succ, kw64, kw32]; rfl))
  (refine sO (a' := ?_) rfl rfl (by rfl) ?_ ?_; rotate_left 1; (· simp only [Act.put, List.setIfInBounds_toArray, List.set_cons_zero, List.set_cons_succ, kw64, kw32]; rfl))
  (refine sO (a' := ?_) rfl rfl (by rfl) ?_ ?_; rotate_left 1; (· simp only [Act.put, List.setIfInBounds_toArray, List.set_cons_zero, List.set_cons_succ, kw64, kw32]; rfl))
  (refine sO (a' := ?_) rfl rfl (by rfl) ?_ ?_; rotate_left 1; (· simp only [Act.put, List.setIfInBounds_toArray, List.set_cons_zero, List.set_cons_succ, kw64, kw32]; rfl))
  (refine sO (a' := ?_) rfl rfl (by rfl) ?_ ?_; rotate_left 1; (· simp only [Act.put, List.setIfInBounds_toArray, List.set_cons_zero, List.set_cons_succ, kw64, kw32]; rfl))
  (refine sP (v := ?_) (a' := ?_) rfl rfl (by rfl) ?_ ?_ ?_; rotate_left 2; (· intro w'; go_simp; with_reducible rfl); (· simp only [Act.put, List.setIfInBounds_toArray, List.set_cons_zero, List.set_cons_succ, kw64, kw32]; rfl))
  (refine sP (v := ?_) (a' := ?_) rfl rfl (by rfl) ?_ ?_ ?_; rotate_left 2; (· intro w'; go_simp; with_reducible rfl); (· simp only [Act.put, List.setIfInBounds_toArray, List.set_cons_zero, List.set_cons_succ, kw64, kw32]; rfl))
  (refine sO (a' := ?_) rfl rfl (by rfl) ?_ ?_; rotate_left 1; (· simp only [Act.put, List.setIfInBounds_toArray, List.set_cons_zero, List.set_cons_succ, kw64, kw32]; rfl))
  (refine sO (a' := ?_) rfl rfl (by rfl) ?_ ?_; rotate_left 1; (· simp only [Act.put, List.setIfInBounds_toArray, List.set_cons_zero, List.set_cons_succ, kw64, kw32]; rfl))
  (refine sO (a' := ?_) rfl rfl (by rfl) ?_ ?_; rotate_left 1; (· simp only [Act.put, List.setIfInBounds_toArray, List.set_cons_zero, List.set_cons_succ, kw64, kw32]; rfl))
  (refine sO (a' := ?_) rfl rfl (by rfl) ?_ ?_; rotate_left 1; (· simp only [Act.put, List.setIfInBounds_toArray, List.set_cons_zero, List.set_cons_succ, kw64, kw32]; rfl))
  (refine sO (a' := ?_) rfl rfl (by rfl) ?_ ?_; rotate_left 1; (· simp only [Act.put, List.setIfInBounds_toArray, List.set_cons_zero, List.set_cons_succ, kw64, kw32]; rfl))
  (refine sO (a' := ?_) rfl rfl (by rfl) ?_ ?_; rotate_left 1; (· simp only [Act.put, List.setIfInBounds_toArray, List.set_cons_zero, List.set_cons_succ, kw64, kw32]; rfl))
  (refine sP (v := ?_) (a' := ?_) rfl rfl (by rfl) ?_ ?_ ?_; rotate_left 2; (· intro w'; go_simp; with_reducible rfl); (· simp only [Act.put, List.setIfInBounds_toArray, List.set_cons_zero, List.set_cons_succ, kw64, kw32]; rfl))
  intro w1 hg
  replace HO := HO.up hg
  clear hg
  go_wp2
  go_ret
  exact ⟨rfl, HO.below⟩
set_option maxHeartbeats 8000000 in
set_option maxRecDepth 100000 in
theorem Right_big (kd : Int) (hk : 3 ≤ kd) (a b c : Nat) (i ba : ByteArray) (sg on : Nat) (ra : ByteArray) (pv nn : Nat) (bo : ByteArray) (ks : List ByteArray) (A : Option Addr) (cp : Nat) (w : World) (hC : Kd.string.C w A ks.length ks) (hc : ks.length ≤ cp) (hn : ks.length ≤ 1000000) :
    Calls Try.prog 8 #[frV ⟨kd, a, b, c, i, ba, sg, on, ra, pv, nn, bo, ks⟩ (.slice A ks.length cp)] w fun e w' => e = .returned (.bool (rightF ⟨kd, a, b, c, i, ba, sg, on, ra, pv, nn, bo, ks⟩)) ∧ Below w.heap.size w w' := by
  rw [show rightF ⟨kd, a, b, c, i, ba, sg, on, ra, pv, nn, bo, ks⟩ = false from by
    unfold rightF
    dsimp only
    rw [show decide (kd ≤ 2) = false from decide_eq_false (by omega)]; simp]
  unfold frV frC
  dsimp only
  generalize hnn : ks.length = n at *
  clear hC hc hn hnn
  have HFm := Lib.hid (fun w1 => formats_any w1)
  generalize f1S = s1' at *
  generalize f2S = s2' at *
  generalize f3S = s3' at *
  have k1 : ¬ (kd < 0) := by omega
  have k2 : kd ≥ 3 := hk
  have HO := (Own.start w).alloc' (.cells #[.int .i64 kd, .int .u64 (a : Int), .int .u64 (b : Int), .int .u64 (c : Int), .string i, .string ba, .int .u64 (sg : Int), .int .u64 (on : Int), .string ra, .int .u64 (pv : Int), .int .u64 (nn : Int), .string bo, .slice A n cp] 25) rfl
  clear hk
  go_enter Try.func8, Try.ntmps8
  go_wp2_with fail
  refine kall [(0, true, some 5), (1, true, some 6), (2, true, some 7), (3, true, some 8), (4, true, some 9), (5, true, some 10), (6, true, some 11), (7, true, some 12), (8, true, some 13), (9, true, some 14), (10, true, some 15), (11, true, some 16), (12, true, some 17), (13, true, some 18), (14, true, some 19), (15, true, some 20), (16, true, some 21), (17, true, some 22)] (by kernel_rfl) rfl (by kernel_rfl) rfl (fun _ _ _ _ _ h => h) ?_
  (refine sP (v := ?_) (a' := ?_) rfl rfl (by rfl) ?_ ?_ ?_; rotate_left 2; (· intro w'; go_simp; with_reducible rfl); (· simp only [Act.put, List.setIfInBounds_toArray, List.set_cons_zero, List.set_cons_succ, kw64, kw32]; rfl))
  (refine sB (v := ?_) (a' := ?_) rfl rfl (by rfl) ?_ ?_ ?_; rotate_left 2; (· intro w1 hg; have c9 := (HO.up hg).cell 0 rfl; go_simp; with_reducible rfl); (· simp only [Act.put, List.setIfInBounds_toArray, List.set_cons_zero, List.set_cons_succ, kw64, kw32]; rfl))
  (refine sP (v := .bool false) (a' := ?_) rfl rfl (by rfl) ?_ ?_ ?_; rotate_left 1; (· intro w'; go_simp; first | done | rw [decide_eq_false k1]); (· simp only [Act.put, List.setIfInBounds_toArray, List.set_cons_zero, List.set_cons_succ, kw64, kw32]; rfl))
  (refine sP (v := ?_) (a' := ?_) rfl rfl (by rfl) ?_ ?_ ?_; rotate_left 2; (· intro w'; go_simp; with_reducible rfl); (· simp only [Act.put, List.setIfInBounds_toArray, List.set_cons_zero, List.set_cons_succ, kw64, kw32]; rfl))
  (refine sP (v := ?_) (a' := ?_) rfl rfl (by rfl) ?_ ?_ ?_; rotate_left 2; (· intro w'; go_simp; with_reducible rfl); (· simp only [Act.put, List.setIfInBounds_toArray, List.set_cons_zero, List.set_cons_succ, kw64, kw32]; rfl))
  (refine sB (v := ?_) (a' := ?_) rfl rfl (by rfl) ?_ ?_ ?_; rotate_left 2; (· intro w1 hg; have c9 := (HO.up hg).cell 0 rfl; go_simp; with_reducible rfl); (· simp only [Act.put, List.setIfInBounds_toArray, List.set_cons_zero, List.set_cons_succ, kw64, kw32]; rfl))
  (refine sD (v := ?_) (a' := ?_) Try.func26 rfl rfl (by rfl) rfl (by kernel_rfl) rfl (by rfl) ?_ ?_ ?_; rotate_left 2; (· intro w1 hg; exact HFm.out w1); (· simp only [Act.put, List.setIfInBounds_toArray, List.set_cons_zero, List.set_cons_succ, kw64, kw32]; rfl))
  (refine sP (v := ?_) (a' := ?_) rfl rfl (by rfl) ?_ ?_ ?_; rotate_left 2; (· intro w'; go_simp; with_reducible rfl); (· simp only [Act.put, List.setIfInBounds_toArray, List.set_cons_zero, List.set_cons_succ, kw64, kw32]; rfl))
  (refine sP (v := .bool true) (a' := ?_) rfl rfl (by rfl) ?_ ?_ ?_; rotate_left 1; (· intro w'; go_simp; first | done | rw [decide_eq_true k2]); (· simp only [Act.put, List.setIfInBounds_toArray, List.set_cons_zero, List.set_cons_succ, kw64, kw32]; rfl))
  (refine sP (v := ?_) (a' := ?_) rfl rfl (by rfl) ?_ ?_ ?_; rotate_left 2; (· intro w'; go_simp; with_reducible rfl); (· simp only [Act.put, List.setIfInBounds_toArray, List.set_cons_zero, List.set_cons_succ, kw64, kw32]; rfl))
  (refine sP (v := ?_) (a' := ?_) rfl rfl (by rfl) ?_ ?_ ?_; rotate_left 2; (· intro w'; go_simp; with_reducible rfl); (· simp only [Act.put, List.setIfInBounds_toArray, List.set_cons_zero, List.set_cons_succ, kw64, kw32]; rfl))
  (refine sO (a' := ?_) rfl rfl (by rfl) ?_ ?_; rotate_left 1; (· simp only [Act.put, List.setIfInBounds_toArray, List.set_cons_zero, List.set_cons_succ, kw64, kw32]; rfl))
  (refine sO (a' := ?_) rfl rfl (by rfl) ?_ ?_; rotate_left 1; (· simp only [Act.put, List.setIfInBounds_toArray, List.set_cons_zero, List.set_cons_succ, kw64, kw32]; rfl))
  (refine sO (a' := ?_) rfl rfl (by rfl) ?_ ?_; rotate_left 1; (· simp only [Act.put, List.setIfInBounds_toArray, List.set_cons_zero, List.set_cons_succ, kw64, kw32]; rfl))
  (refine sO (a' := ?_) rfl rfl (by rfl) ?_ ?_; rotate_left 1; (· simp only [Act.put, List.setIfInBounds_toArray, List.set_cons_zero, List.set_cons_succ, kw64, kw32]; rfl))
  (refine sO (a' := ?_) rfl rfl (by rfl) ?_ ?_; rotate_left 1; (· simp only [Act.put, List.setIfInBounds_toArray, List.set_cons_zero, List.set_cons_succ, kw64, kw32]; rfl))
  (refine sO (a' := ?_) rfl rfl (by rfl) ?_ ?_; rotate_left 1; (· simp only [Act.put, List.setIfInBounds_toArray, List.set_cons_zero, List.set_cons_succ, kw64, kw32]; rfl))
  (refine sP (v := ?_) (a' := ?_) rfl rfl (by rfl) ?_ ?_ ?_; rotate_left 2; (· intro w'; go_simp; with_reducible rfl); (· simp only [Act.put, List.setIfInBounds_toArray, List.set_cons_zero, List.set_cons_succ, kw64, kw32]; rfl))
  intro w1 hg
  replace HO := HO.up hg
  clear hg
  go_wp2
  go_ret
  exact ⟨rfl, HO.below⟩
set_option maxHeartbeats 8000000 in
set_option maxRecDepth 100000 in
theorem Right_k1 (a b c : Nat) (i ba : ByteArray) (sg on : Nat) (ra : ByteArray) (pv nn : Nat) (bo : ByteArray) (ks : List ByteArray) (A : Option Addr) (cp : Nat) (w : World) (hC : Kd.string.C w A ks.length ks) (hc : ks.length ≤ cp) (hn : ks.length ≤ 1000000) :
    Calls Try.prog 8 #[frV ⟨1, a, b, c, i, ba, sg, on, ra, pv, nn, bo, ks⟩ (.slice A ks.length cp)] w fun e w' => e = .returned (.bool (rightF ⟨1, a, b, c, i, ba, sg, on, ra, pv, nn, bo, ks⟩)) ∧ Below w.heap.size w w' := by
  have HFm := Lib.hid (fun w1 => formats_any w1)
  generalize f1S = s1' at *
  generalize f2S = s2' at *
  generalize f3S = s3' at *
  have hR : rightF ⟨1, a, b, c, i, ba, sg, on, ra, pv, nn, bo, ks⟩ = (likeF ⟨1, a, b, c, i, ba, sg, on, ra, pv, nn, bo, ks⟩ (ofF ⟨1, a, b, c, i, ba, sg, on, ra, pv, nn, bo, ks⟩) && decide (bo.size ≤ 1024) && decide (ks.length ≤ 32) && !(oddL [ra])) := by
    unfold rightF pointsF
    dsimp only
    rw [show decide ((0 : Int) ≤ 1) = true from rfl, show decide ((1 : Int) ≤ 2) = true from rfl, Bool.true_and, Bool.true_and]
    rfl
  rw [hR]
  clear hR
  have HP := Lib.hid (fun w1 (hg : Below w.heap.size w w1) => parts_any ⟨1, a, b, c, i, ba, sg, on, ra, pv, nn, bo, ks⟩ (show (0 : Int) ≤ 1 by decide) (show (1 : Int) ≤ 2 by decide) A cp w1 (Kd.C_below hC hg) hc hn)
  have HF := Lib.hid (fun B d w1 hB hd => of_any ⟨1, a, b, c, i, ba, sg, on, ra, pv, nn, bo, ks⟩ (show (0 : Int) ≤ 1 by decide) (show (1 : Int) ≤ 2 by decide) B d w1 hB hd hn)
  have HLk := Lib.hid (fun B d w1 (hg : Below w.heap.size w w1) hD hd => Like_any ⟨1, a, b, c, i, ba, sg, on, ra, pv, nn, bo, ks⟩ (ofF ⟨1, a, b, c, i, ba, sg, on, ra, pv, nn, bo, ks⟩) A cp B d w1 (Kd.C_below hC hg) hc hD hd hn)
  have HCk := Lib.hid (fun w1 (hg : Below w.heap.size w w1) => Kd.C_below hC hg)
  rw [show frV ⟨1, a, b, c, i, ba, sg, on, ra, pv, nn, bo, ks⟩ (.slice A ks.length cp) = .agg #[.int .i64 1, .int .u64 (a : Int), .int .u64 (b : Int), .int .u64 (c : Int), .string i, .string ba, .int .u64 (sg : Int), .int .u64 (on : Int), .string ra, .int .u64 (pv : Int), .int .u64 (nn : Int), .string bo, .slice A ks.length cp] from rfl] at HP HLk ⊢
  generalize likeF ⟨1, a, b, c, i, ba, sg, on, ra, pv, nn, bo, ks⟩ (ofF ⟨1, a, b, c, i, ba, sg, on, ra, pv, nn, bo, ks⟩) = lk at *
  generalize hfo : ofF ⟨1, a, b, c, i, ba, sg, on, ra, pv, nn, bo, ks⟩ = g at *
  generalize hpl : partsP ⟨1, a, b, c, i, ba, sg, on, ra, pv, nn, bo, ks⟩ = pl at *
  have HN := Lib.hid hn
  have HNC := Lib.hid hc
  clear hC hc hn hfo hpl
  generalize hnn : ks.length = n at *
  have HNN := Lib.hid hnn
  clear hnn
  have HO := (Own.start w).alloc' (.cells #[.int .i64 1, .int .u64 (a : Int), .int .u64 (b : Int), .int .u64 (c : Int), .string i, .string ba, .int .u64 (sg : Int), .int .u64 (on : Int), .string ra, .int .u64 (pv : Int), .int .u64 (nn : Int), .string bo, .slice A n cp] 25) rfl
  go_enter Try.func8, Try.ntmps8
  go_wp2_with fail
  refine bstart (fun w => w.heap.size) (n := 18) (ds := []) #[false, false, false, false, false, false, false, false, false, false, false, false, false, false, false, false, false, false] (by kernel_rfl) rfl rfl (Nat.le_refl _) (fun HBS => ?_)
  refine bseq (m := 5) (.inl rfl) [(0, true, some 5), (1, true, some 6), (2, true, some 7), (3, true, some 8), (4, true, some 9), (5, true, some 10), (6, true, some 11), (7, true, some 12), (8, true, some 13), (9, true, some 14), (10, true, some 15), (11, true, some 16), (12, true, some 17)] #[true, true, true, true, true, true, true, true, true, true, true, true, true, false, false, false, false, false] HBS (by kernel_rfl) rfl (fun _ _ _ _ _ h => h) ?_
  (refine sP (v := ?_) (a' := ?_) rfl rfl (by rfl) ?_ ?_ ?_; rotate_left 2; (· intro w'; go_simp; with_reducible rfl); (· simp only [Act.put, List.setIfInBounds_toArray, List.set_cons_zero, List.set_cons_succ, kw64, kw32]; rfl))
  (refine sB (v := ?_) (a' := ?_) rfl rfl (by rfl) ?_ ?_ ?_; rotate_left 2; (· intro w1 hg; have c9 := (HO.up hg).cell 0 rfl; go_simp; with_reducible rfl); (· simp only [Act.put, List.setIfInBounds_toArray, List.set_cons_zero, List.set_cons_succ, kw64, kw32]; rfl))
  (refine sP (v := ?_) (a' := ?_) rfl rfl (by rfl) ?_ ?_ ?_; rotate_left 2; (· intro w'; go_simp; with_reducible rfl); (· simp only [Act.put, List.setIfInBounds_toArray, List.set_cons_zero, List.set_cons_succ, kw64, kw32]; rfl))
  (refine sP (v := ?_) (a' := ?_) rfl rfl (by rfl) ?_ ?_ ?_; rotate_left 2; (· intro w'; go_simp; with_reducible rfl); (· simp only [Act.put, List.setIfInBounds_toArray, List.set_cons_zero, List.set_cons_succ, kw64, kw32]; rfl))
  (refine sP (v := ?_) (a' := ?_) rfl rfl (by rfl) ?_ ?_ ?_; rotate_left 2; (· intro w'; go_simp; with_reducible rfl); (· simp only [Act.put, List.setIfInBounds_toArray, List.set_cons_zero, List.set_cons_succ, kw64, kw32]; rfl))
  (refine sB (v := ?_) (a' := ?_) rfl rfl (by rfl) ?_ ?_ ?_; rotate_left 2; (· intro w1 hg; have c9 := (HO.up hg).cell 0 rfl; go_simp; with_reducible rfl); (· simp only [Act.put, List.setIfInBounds_toArray, List.set_cons_zero, List.set_cons_succ, kw64, kw32]; rfl))
  (refine sD (v := ?_) (a' := ?_) Try.func26 rfl rfl (by rfl) rfl (by kernel_rfl) rfl (by rfl) ?_ ?_ ?_; rotate_left 2; (· intro w1 hg; exact HFm.out w1); (· simp only [Act.put, List.setIfInBounds_toArray, List.set_cons_zero, List.set_cons_succ, kw64, kw32]; rfl))
  (refine sP (v := ?_) (a' := ?_) rfl rfl (by rfl) ?_ ?_ ?_; rotate_left 2; (· intro w'; go_simp; with_reducible rfl); (· simp only [Act.put, List.setIfInBounds_toArray, List.set_cons_zero, List.set_cons_succ, kw64, kw32]; rfl))
  (refine sP (v := ?_) (a' := ?_) rfl rfl (by rfl) ?_ ?_ ?_; rotate_left 2; (· intro w'; go_simp; with_reducible rfl); (· simp only [Act.put, List.setIfInBounds_toArray, List.set_cons_zero, List.set_cons_succ, kw64, kw32]; rfl))
  (refine sP (v := ?_) (a' := ?_) rfl rfl (by rfl) ?_ ?_ ?_; rotate_left 2; (· intro w'; go_simp; with_reducible rfl); (· simp only [Act.put, List.setIfInBounds_toArray, List.set_cons_zero, List.set_cons_succ, kw64, kw32]; rfl))
  (refine sP (v := ?_) (a' := ?_) rfl rfl (by rfl) ?_ ?_ ?_; rotate_left 2; (· intro w'; go_simp; with_reducible rfl); (· simp only [Act.put, List.setIfInBounds_toArray, List.set_cons_zero, List.set_cons_succ, kw64, kw32]; rfl))
  (refine sB (v := ?_) (a' := ?_) rfl rfl (by rfl) ?_ ?_ ?_; rotate_left 2; (· intro w1 hg; (refine Eq.trans (run_load_row 25 (.tmp 1) rfl w.heap.size (by rfl) _ #[.int .i64 1, .int .u64 (a : Int), .int .u64 (b : Int), .int .u64 (c : Int), .string i, .string ba, .int .u64 (sg : Int), .int .u64 (on : Int), .string ra, .int .u64 (pv : Int), .int .u64 (nn : Int), .string bo, .slice A n cp] _ _ ((HO.up hg).blk 0 rfl) Try.underlying25 rfl (by kernel_rfl)) ?_; with_reducible rfl)); (· simp only [Act.put, List.setIfInBounds_toArray, List.set_cons_zero, List.set_cons_succ, kw64, kw32]; rfl))
  (refine sB (v := ?_) (a' := ?_) rfl rfl (by rfl) ?_ ?_ ?_; rotate_left 2; (· intro w1 hg; (refine Eq.trans (run_load_row 25 (.tmp 1) rfl w.heap.size (by rfl) _ #[.int .i64 1, .int .u64 (a : Int), .int .u64 (b : Int), .int .u64 (c : Int), .string i, .string ba, .int .u64 (sg : Int), .int .u64 (on : Int), .string ra, .int .u64 (pv : Int), .int .u64 (nn : Int), .string bo, .slice A n cp] _ _ ((HO.up hg).blk 0 rfl) Try.underlying25 rfl (by kernel_rfl)) ?_; with_reducible rfl)); (· simp only [Act.put, List.setIfInBounds_toArray, List.set_cons_zero, List.set_cons_succ, kw64, kw32]; rfl))
  refine bone (i := 13) (N := (some 18)) #[true, true, true, true, true, true, true, true, true, true, true, true, true, true, false, false, false, false] rfl rfl (by kernel_rfl) HBS (fun w1 hg K hK => ?_)
  rw [if_pos (by rfl)]
  replace HO := HO.up hg
  refine wp_call Try.func24 rfl (by kernel_rfl) rfl (by rfl) ((HP.out w1 HO.below).mono ?_)
  rintro e w2 ⟨⟨B, d, rfl, hd, hB⟩, hb⟩
  refine ⟨_, rfl, hK _ _ (not_ds (by decide) hb) (fun HBS => ?_)⟩
  replace HO := HO.up hb
  refine at_dst (some 18) rfl ?_
  simp only [Act.put, List.setIfInBounds_toArray, List.set_cons_zero, List.set_cons_succ]
  refine bone (i := 14) (N := (some 19)) #[true, true, true, true, true, true, true, true, true, true, true, true, true, true, true, false, false, false] rfl rfl (by kernel_rfl) HBS (fun w1 hg K hK => ?_)
  rw [if_pos (by rfl)]
  replace HO := HO.up hg
  refine wp_call Try.func27 rfl (by kernel_rfl) rfl (by rfl) ((HF.out B d w1 (Kd.C_below hB (Below.mono hg (Nat.le_refl _))) hd).mono ?_)
  rintro e w2 ⟨⟨v, rfl, A2, c2, rfl, hl2, _, hC2⟩, hb⟩
  refine ⟨_, rfl, hK _ _ (not_ds (by decide) hb) (fun HBS => ?_)⟩
  replace HO := HO.up hb
  refine at_dst (some 19) rfl ?_
  simp only [Act.put, List.setIfInBounds_toArray, List.set_cons_zero, List.set_cons_succ]
  refine bseq (m := 0) (.inl rfl) [(15, false, some 20), (16, true, some 21), (17, true, some 22)] #[true, true, true, true, true, true, true, true, true, true, true, true, true, true, true, true, true, true] HBS (by kernel_rfl) rfl (fun _ _ _ _ _ h => h) ?_
  (refine sC (v := ?_) (a' := ?_) Try.func10 rfl rfl (by rfl) rfl (by kernel_rfl) rfl (by rfl) ?_ ?_ ?_; rotate_left 2; (· intro w1 hg; exact HLk.out A2 c2 w1 (HO.up hg).below (Kd.C_below hC2 hg) hl2); (· simp only [Act.put, List.setIfInBounds_toArray, List.set_cons_zero, List.set_cons_succ, kw64, kw32]; rfl))
  (refine sP (v := ?_) (a' := ?_) rfl rfl (by rfl) ?_ ?_ ?_; rotate_left 2; (· intro w'; go_simp; with_reducible rfl); (· simp only [Act.put, List.setIfInBounds_toArray, List.set_cons_zero, List.set_cons_succ, kw64, kw32]; rfl))
  (refine sP (v := ?_) (a' := ?_) rfl rfl (by rfl) ?_ ?_ ?_; rotate_left 2; (· intro w'; go_simp; with_reducible rfl); (· simp only [Act.put, List.setIfInBounds_toArray, List.set_cons_zero, List.set_cons_succ, kw64, kw32]; rfl))
  refine bdone (by kernel_rfl) (fun w1 hg => ?_)
  replace HO := HO.up hg
  clear hg HP HF HLk HFm
  cases lk with
  | false =>
    go_wp2
    go_ret
    exact ⟨rfl, HO.below⟩
  | true =>
    have hsz : (w1.alloc (.cells #[.string ra] 9)).heap.size = w1.heap.size + 1 := by simp
    have HCL := Lib.hid (C_lit_strF w1 9 [ra] (by simp))
    have HBL := Lib.hid (below_alloc HO.below (.cells #[.string ra] 9))
    clear hsz
    by_cases hb : bo.size ≤ 1024
    · have e1 : (bo.size : Int) ≤ 1024 := by omega
      have HB1 := Lib.hid hb
      clear hb
      by_cases hk : n ≤ 32
      · have e2 : (n : Int) ≤ 32 := by omega
        have HK1 := Lib.hid hk
        clear hk
        have c0 := HO.cell 0 rfl
        have cA := (HO.alloc' (.cells #[.string ra] 9) rfl).cell 1 rfl
        go_wp2_with fail
        refine (ContainsFunc_any _ 1 1 [ra] _ HCL.out (by decide)).mono ?_
        rintro e w5 ⟨rfl, rfl⟩
        go_wp2
        go_ret
        exact ⟨by rw [decide_eq_true HB1.out, decide_eq_true HK1.out]; rfl, HBL.out⟩
      · have e2 : ¬ ((n : Int) ≤ 32) := by omega
        have HK1 := Lib.hid hk
        clear hk
        have c0 := HO.cell 0 rfl
        have cA := (HO.alloc' (.cells #[.string ra] 9) rfl).cell 1 rfl
        go_wp2
        go_ret
        exact ⟨by rw [decide_eq_true HB1.out, decide_eq_false HK1.out]; rfl, HBL.out⟩
    · have e1 : ¬ ((bo.size : Int) ≤ 1024) := by omega
      have HB1 := Lib.hid hb
      clear hb
      have c0 := HO.cell 0 rfl
      have cA := (HO.alloc' (.cells #[.string ra] 9) rfl).cell 1 rfl
      go_wp2
      go_ret
      exact ⟨by rw [decide_eq_false HB1.out]; rfl, HBL.out⟩
set_option maxHeartbeats 8000000 in
set_option maxRecDepth 100000 in
theorem Right_k2 (a b c : Nat) (i ba : ByteArray) (sg on : Nat) (ra : ByteArray) (pv nn : Nat) (bo : ByteArray) (ks : List ByteArray) (A : Option Addr) (cp : Nat) (w : World) (hC : Kd.string.C w A ks.length ks) (hc : ks.length ≤ cp) (hn : ks.length ≤ 1000000) :
    Calls Try.prog 8 #[frV ⟨2, a, b, c, i, ba, sg, on, ra, pv, nn, bo, ks⟩ (.slice A ks.length cp)] w fun e w' => e = .returned (.bool (rightF ⟨2, a, b, c, i, ba, sg, on, ra, pv, nn, bo, ks⟩)) ∧ Below w.heap.size w w' := by
  have HFm := Lib.hid (fun w1 => formats_any w1)
  generalize f1S = s1' at *
  generalize f2S = s2' at *
  generalize f3S = s3' at *
  have hR : rightF ⟨2, a, b, c, i, ba, sg, on, ra, pv, nn, bo, ks⟩ = (likeF ⟨2, a, b, c, i, ba, sg, on, ra, pv, nn, bo, ks⟩ (ofF ⟨2, a, b, c, i, ba, sg, on, ra, pv, nn, bo, ks⟩) && decide (bo.size ≤ 1024) && decide (ks.length ≤ 32) && !(oddL ks)) := by
    unfold rightF pointsF
    dsimp only
    rw [show decide ((0 : Int) ≤ 2) = true from rfl, show decide ((2 : Int) ≤ 2) = true from rfl, Bool.true_and, Bool.true_and]
    rfl
  rw [hR]
  clear hR
  have HP := Lib.hid (fun w1 (hg : Below w.heap.size w w1) => parts_any ⟨2, a, b, c, i, ba, sg, on, ra, pv, nn, bo, ks⟩ (show (0 : Int) ≤ 2 by decide) (show (2 : Int) ≤ 2 by decide) A cp w1 (Kd.C_below hC hg) hc hn)
  have HF := Lib.hid (fun B d w1 hB hd => of_any ⟨2, a, b, c, i, ba, sg, on, ra, pv, nn, bo, ks⟩ (show (0 : Int) ≤ 2 by decide) (show (2 : Int) ≤ 2 by decide) B d w1 hB hd hn)
  have HLk := Lib.hid (fun B d w1 (hg : Below w.heap.size w w1) hD hd => Like_any ⟨2, a, b, c, i, ba, sg, on, ra, pv, nn, bo, ks⟩ (ofF ⟨2, a, b, c, i, ba, sg, on, ra, pv, nn, bo, ks⟩) A cp B d w1 (Kd.C_below hC hg) hc hD hd hn)
  have HCk := Lib.hid (fun w1 (hg : Below w.heap.size w w1) => Kd.C_below hC hg)
  rw [show frV ⟨2, a, b, c, i, ba, sg, on, ra, pv, nn, bo, ks⟩ (.slice A ks.length cp) = .agg #[.int .i64 2, .int .u64 (a : Int), .int .u64 (b : Int), .int .u64 (c : Int), .string i, .string ba, .int .u64 (sg : Int), .int .u64 (on : Int), .string ra, .int .u64 (pv : Int), .int .u64 (nn : Int), .string bo, .slice A ks.length cp] from rfl] at HP HLk ⊢
  generalize likeF ⟨2, a, b, c, i, ba, sg, on, ra, pv, nn, bo, ks⟩ (ofF ⟨2, a, b, c, i, ba, sg, on, ra, pv, nn, bo, ks⟩) = lk at *
  generalize hfo : ofF ⟨2, a, b, c, i, ba, sg, on, ra, pv, nn, bo, ks⟩ = g at *
  generalize hpl : partsP ⟨2, a, b, c, i, ba, sg, on, ra, pv, nn, bo, ks⟩ = pl at *
  have HN := Lib.hid hn
  have HNC := Lib.hid hc
  clear hC hc hn hfo hpl
  generalize hnn : ks.length = n at *
  have HNN := Lib.hid hnn
  clear hnn
  have HO := (Own.start w).alloc' (.cells #[.int .i64 2, .int .u64 (a : Int), .int .u64 (b : Int), .int .u64 (c : Int), .string i, .string ba, .int .u64 (sg : Int), .int .u64 (on : Int), .string ra, .int .u64 (pv : Int), .int .u64 (nn : Int), .string bo, .slice A n cp] 25) rfl
  go_enter Try.func8, Try.ntmps8
  go_wp2_with fail
  refine bstart (fun w => w.heap.size) (n := 18) (ds := []) #[false, false, false, false, false, false, false, false, false, false, false, false, false, false, false, false, false, false] (by kernel_rfl) rfl rfl (Nat.le_refl _) (fun HBS => ?_)
  refine bseq (m := 5) (.inl rfl) [(0, true, some 5), (1, true, some 6), (2, true, some 7), (3, true, some 8), (4, true, some 9), (5, true, some 10), (6, true, some 11), (7, true, some 12), (8, true, some 13), (9, true, some 14), (10, true, some 15), (11, true, some 16), (12, true, some 17)] #[true, true, true, true, true, true, true, true, true, true, true, true, true, false, false, false, false, false] HBS (by kernel_rfl) rfl (fun _ _ _ _ _ h => h) ?_
  (refine sP (v := ?_) (a' := ?_) rfl rfl (by rfl) ?_ ?_ ?_; rotate_left 2; (· intro w'; go_simp; with_reducible rfl); (· simp only [Act.put, List.setIfInBounds_toArray, List.set_cons_zero, List.set_cons_succ, kw64, kw32]; rfl))
  (refine sB (v := ?_) (a' := ?_) rfl rfl (by rfl) ?_ ?_ ?_; rotate_left 2; (· intro w1 hg; have c9 := (HO.up hg).cell 0 rfl; go_simp; with_reducible rfl); (· simp only [Act.put, List.setIfInBounds_toArray, List.set_cons_zero, List.set_cons_succ, kw64, kw32]; rfl))
  (refine sP (v := ?_) (a' := ?_) rfl rfl (by rfl) ?_ ?_ ?_; rotate_left 2; (· intro w'; go_simp; with_reducible rfl); (· simp only [Act.put, List.setIfInBounds_toArray, List.set_cons_zero, List.set_cons_succ, kw64, kw32]; rfl))
  (refine sP (v := ?_) (a' := ?_) rfl rfl (by rfl) ?_ ?_ ?_; rotate_left 2; (· intro w'; go_simp; with_reducible rfl); (· simp only [Act.put, List.setIfInBounds_toArray, List.set_cons_zero, List.set_cons_succ, kw64, kw32]; rfl))
  (refine sP (v := ?_) (a' := ?_) rfl rfl (by rfl) ?_ ?_ ?_; rotate_left 2; (· intro w'; go_simp; with_reducible rfl); (· simp only [Act.put, List.setIfInBounds_toArray, List.set_cons_zero, List.set_cons_succ, kw64, kw32]; rfl))
  (refine sB (v := ?_) (a' := ?_) rfl rfl (by rfl) ?_ ?_ ?_; rotate_left 2; (· intro w1 hg; have c9 := (HO.up hg).cell 0 rfl; go_simp; with_reducible rfl); (· simp only [Act.put, List.setIfInBounds_toArray, List.set_cons_zero, List.set_cons_succ, kw64, kw32]; rfl))
  (refine sD (v := ?_) (a' := ?_) Try.func26 rfl rfl (by rfl) rfl (by kernel_rfl) rfl (by rfl) ?_ ?_ ?_; rotate_left 2; (· intro w1 hg; exact HFm.out w1); (· simp only [Act.put, List.setIfInBounds_toArray, List.set_cons_zero, List.set_cons_succ, kw64, kw32]; rfl))
  (refine sP (v := ?_) (a' := ?_) rfl rfl (by rfl) ?_ ?_ ?_; rotate_left 2; (· intro w'; go_simp; with_reducible rfl); (· simp only [Act.put, List.setIfInBounds_toArray, List.set_cons_zero, List.set_cons_succ, kw64, kw32]; rfl))
  (refine sP (v := ?_) (a' := ?_) rfl rfl (by rfl) ?_ ?_ ?_; rotate_left 2; (· intro w'; go_simp; with_reducible rfl); (· simp only [Act.put, List.setIfInBounds_toArray, List.set_cons_zero, List.set_cons_succ, kw64, kw32]; rfl))
  (refine sP (v := ?_) (a' := ?_) rfl rfl (by rfl) ?_ ?_ ?_; rotate_left 2; (· intro w'; go_simp; with_reducible rfl); (· simp only [Act.put, List.setIfInBounds_toArray, List.set_cons_zero, List.set_cons_succ, kw64, kw32]; rfl))
  (refine sP (v := ?_) (a' := ?_) rfl rfl (by rfl) ?_ ?_ ?_; rotate_left 2; (· intro w'; go_simp; with_reducible rfl); (· simp only [Act.put, List.setIfInBounds_toArray, List.set_cons_zero, List.set_cons_succ, kw64, kw32]; rfl))
  (refine sB (v := ?_) (a' := ?_) rfl rfl (by rfl) ?_ ?_ ?_; rotate_left 2; (· intro w1 hg; (refine Eq.trans (run_load_row 25 (.tmp 1) rfl w.heap.size (by rfl) _ #[.int .i64 2, .int .u64 (a : Int), .int .u64 (b : Int), .int .u64 (c : Int), .string i, .string ba, .int .u64 (sg : Int), .int .u64 (on : Int), .string ra, .int .u64 (pv : Int), .int .u64 (nn : Int), .string bo, .slice A n cp] _ _ ((HO.up hg).blk 0 rfl) Try.underlying25 rfl (by kernel_rfl)) ?_; with_reducible rfl)); (· simp only [Act.put, List.setIfInBounds_toArray, List.set_cons_zero, List.set_cons_succ, kw64, kw32]; rfl))
  (refine sB (v := ?_) (a' := ?_) rfl rfl (by rfl) ?_ ?_ ?_; rotate_left 2; (· intro w1 hg; (refine Eq.trans (run_load_row 25 (.tmp 1) rfl w.heap.size (by rfl) _ #[.int .i64 2, .int .u64 (a : Int), .int .u64 (b : Int), .int .u64 (c : Int), .string i, .string ba, .int .u64 (sg : Int), .int .u64 (on : Int), .string ra, .int .u64 (pv : Int), .int .u64 (nn : Int), .string bo, .slice A n cp] _ _ ((HO.up hg).blk 0 rfl) Try.underlying25 rfl (by kernel_rfl)) ?_; with_reducible rfl)); (· simp only [Act.put, List.setIfInBounds_toArray, List.set_cons_zero, List.set_cons_succ, kw64, kw32]; rfl))
  refine bone (i := 13) (N := (some 18)) #[true, true, true, true, true, true, true, true, true, true, true, true, true, true, false, false, false, false] rfl rfl (by kernel_rfl) HBS (fun w1 hg K hK => ?_)
  rw [if_pos (by rfl)]
  replace HO := HO.up hg
  refine wp_call Try.func24 rfl (by kernel_rfl) rfl (by rfl) ((HP.out w1 HO.below).mono ?_)
  rintro e w2 ⟨⟨B, d, rfl, hd, hB⟩, hb⟩
  refine ⟨_, rfl, hK _ _ (not_ds (by decide) hb) (fun HBS => ?_)⟩
  replace HO := HO.up hb
  refine at_dst (some 18) rfl ?_
  simp only [Act.put, List.setIfInBounds_toArray, List.set_cons_zero, List.set_cons_succ]
  refine bone (i := 14) (N := (some 19)) #[true, true, true, true, true, true, true, true, true, true, true, true, true, true, true, false, false, false] rfl rfl (by kernel_rfl) HBS (fun w1 hg K hK => ?_)
  rw [if_pos (by rfl)]
  replace HO := HO.up hg
  refine wp_call Try.func27 rfl (by kernel_rfl) rfl (by rfl) ((HF.out B d w1 (Kd.C_below hB (Below.mono hg (Nat.le_refl _))) hd).mono ?_)
  rintro e w2 ⟨⟨v, rfl, A2, c2, rfl, hl2, _, hC2⟩, hb⟩
  refine ⟨_, rfl, hK _ _ (not_ds (by decide) hb) (fun HBS => ?_)⟩
  replace HO := HO.up hb
  refine at_dst (some 19) rfl ?_
  simp only [Act.put, List.setIfInBounds_toArray, List.set_cons_zero, List.set_cons_succ]
  refine bseq (m := 0) (.inl rfl) [(15, false, some 20), (16, true, some 21), (17, true, some 22)] #[true, true, true, true, true, true, true, true, true, true, true, true, true, true, true, true, true, true] HBS (by kernel_rfl) rfl (fun _ _ _ _ _ h => h) ?_
  (refine sC (v := ?_) (a' := ?_) Try.func10 rfl rfl (by rfl) rfl (by kernel_rfl) rfl (by rfl) ?_ ?_ ?_; rotate_left 2; (· intro w1 hg; exact HLk.out A2 c2 w1 (HO.up hg).below (Kd.C_below hC2 hg) hl2); (· simp only [Act.put, List.setIfInBounds_toArray, List.set_cons_zero, List.set_cons_succ, kw64, kw32]; rfl))
  (refine sP (v := ?_) (a' := ?_) rfl rfl (by rfl) ?_ ?_ ?_; rotate_left 2; (· intro w'; go_simp; with_reducible rfl); (· simp only [Act.put, List.setIfInBounds_toArray, List.set_cons_zero, List.set_cons_succ, kw64, kw32]; rfl))
  (refine sP (v := ?_) (a' := ?_) rfl rfl (by rfl) ?_ ?_ ?_; rotate_left 2; (· intro w'; go_simp; with_reducible rfl); (· simp only [Act.put, List.setIfInBounds_toArray, List.set_cons_zero, List.set_cons_succ, kw64, kw32]; rfl))
  refine bdone (by kernel_rfl) (fun w1 hg => ?_)
  replace HO := HO.up hg
  clear hg HP HF HLk HFm
  cases lk with
  | false =>
    go_wp2
    go_ret
    exact ⟨rfl, HO.below⟩
  | true =>
    have HCL := Lib.hid (HCk.out _ HO.below)
    have HBL := Lib.hid HO.below
    by_cases hb : bo.size ≤ 1024
    · have e1 : (bo.size : Int) ≤ 1024 := by omega
      have HB1 := Lib.hid hb
      clear hb
      by_cases hk : n ≤ 32
      · have e2 : (n : Int) ≤ 32 := by omega
        have HK1 := Lib.hid hk
        clear hk
        have c0 := HO.cell 0 rfl
        go_wp2_with fail
        refine (ContainsFunc_any _ n cp ks _ HCL.out HN.out).mono ?_
        rintro e w5 ⟨rfl, rfl⟩
        go_wp2
        go_ret
        exact ⟨by rw [decide_eq_true HB1.out, decide_eq_true HK1.out]; rfl, HBL.out⟩
      · have e2 : ¬ ((n : Int) ≤ 32) := by omega
        have HK1 := Lib.hid hk
        clear hk
        have c0 := HO.cell 0 rfl
        go_wp2
        go_ret
        exact ⟨by rw [decide_eq_true HB1.out, decide_eq_false HK1.out]; rfl, HBL.out⟩
    · have e1 : ¬ ((bo.size : Int) ≤ 1024) := by omega
      have HB1 := Lib.hid hb
      clear hb
      have c0 := HO.cell 0 rfl
      go_wp2
      go_ret
      exact ⟨by rw [decide_eq_false HB1.out]; rfl, HBL.out⟩
set_option maxHeartbeats 8000000 in
set_option maxRecDepth 100000 in
theorem Right_k0 (a b c : Nat) (i ba : ByteArray) (sg on : Nat) (ra : ByteArray) (pv nn : Nat) (bo : ByteArray) (ks : List ByteArray) (A : Option Addr) (cp : Nat) (w : World) (hC : Kd.string.C w A ks.length ks) (hc : ks.length ≤ cp) (hn : ks.length ≤ 1000000) :
    Calls Try.prog 8 #[frV ⟨0, a, b, c, i, ba, sg, on, ra, pv, nn, bo, ks⟩ (.slice A ks.length cp)] w fun e w' => e = .returned (.bool (rightF ⟨0, a, b, c, i, ba, sg, on, ra, pv, nn, bo, ks⟩)) ∧ Below w.heap.size w w' := by
  have HFm := Lib.hid (fun w1 => formats_any w1)
  generalize f1S = s1' at *
  generalize f2S = s2' at *
  generalize f3S = s3' at *
  have hR : rightF ⟨0, a, b, c, i, ba, sg, on, ra, pv, nn, bo, ks⟩ = (likeF ⟨0, a, b, c, i, ba, sg, on, ra, pv, nn, bo, ks⟩ (ofF ⟨0, a, b, c, i, ba, sg, on, ra, pv, nn, bo, ks⟩) && decide (bo.size ≤ 1024) && decide (ks.length ≤ 32) && !(oddL [ra, i, ba])) := by
    unfold rightF pointsF
    dsimp only
    rw [show decide ((0 : Int) ≤ 0) = true from rfl, show decide ((0 : Int) ≤ 2) = true from rfl, Bool.true_and, Bool.true_and]
    rfl
  rw [hR]
  clear hR
  have HP := Lib.hid (fun w1 (hg : Below w.heap.size w w1) => parts_any ⟨0, a, b, c, i, ba, sg, on, ra, pv, nn, bo, ks⟩ (show (0 : Int) ≤ 0 by decide) (show (0 : Int) ≤ 2 by decide) A cp w1 (Kd.C_below hC hg) hc hn)
  have HF := Lib.hid (fun B d w1 hB hd => of_any ⟨0, a, b, c, i, ba, sg, on, ra, pv, nn, bo, ks⟩ (show (0 : Int) ≤ 0 by decide) (show (0 : Int) ≤ 2 by decide) B d w1 hB hd hn)
  have HLk := Lib.hid (fun B d w1 (hg : Below w.heap.size w w1) hD hd => Like_any ⟨0, a, b, c, i, ba, sg, on, ra, pv, nn, bo, ks⟩ (ofF ⟨0, a, b, c, i, ba, sg, on, ra, pv, nn, bo, ks⟩) A cp B d w1 (Kd.C_below hC hg) hc hD hd hn)
  have HCk := Lib.hid (fun w1 (hg : Below w.heap.size w w1) => Kd.C_below hC hg)
  rw [show frV ⟨0, a, b, c, i, ba, sg, on, ra, pv, nn, bo, ks⟩ (.slice A ks.length cp) = .agg #[.int .i64 0, .int .u64 (a : Int), .int .u64 (b : Int), .int .u64 (c : Int), .string i, .string ba, .int .u64 (sg : Int), .int .u64 (on : Int), .string ra, .int .u64 (pv : Int), .int .u64 (nn : Int), .string bo, .slice A ks.length cp] from rfl] at HP HLk ⊢
  generalize likeF ⟨0, a, b, c, i, ba, sg, on, ra, pv, nn, bo, ks⟩ (ofF ⟨0, a, b, c, i, ba, sg, on, ra, pv, nn, bo, ks⟩) = lk at *
  generalize hfo : ofF ⟨0, a, b, c, i, ba, sg, on, ra, pv, nn, bo, ks⟩ = g at *
  generalize hpl : partsP ⟨0, a, b, c, i, ba, sg, on, ra, pv, nn, bo, ks⟩ = pl at *
  have HN := Lib.hid hn
  have HNC := Lib.hid hc
  clear hC hc hn hfo hpl
  generalize hnn : ks.length = n at *
  have HNN := Lib.hid hnn
  clear hnn
  have HO := (Own.start w).alloc' (.cells #[.int .i64 0, .int .u64 (a : Int), .int .u64 (b : Int), .int .u64 (c : Int), .string i, .string ba, .int .u64 (sg : Int), .int .u64 (on : Int), .string ra, .int .u64 (pv : Int), .int .u64 (nn : Int), .string bo, .slice A n cp] 25) rfl
  go_enter Try.func8, Try.ntmps8
  go_wp2_with fail
  refine bstart (fun w => w.heap.size) (n := 18) (ds := []) #[false, false, false, false, false, false, false, false, false, false, false, false, false, false, false, false, false, false] (by kernel_rfl) rfl rfl (Nat.le_refl _) (fun HBS => ?_)
  refine bseq (m := 5) (.inl rfl) [(0, true, some 5), (1, true, some 6), (2, true, some 7), (3, true, some 8), (4, true, some 9), (5, true, some 10), (6, true, some 11), (7, true, some 12), (8, true, some 13), (9, true, some 14), (10, true, some 15), (11, true, some 16), (12, true, some 17)] #[true, true, true, true, true, true, true, true, true, true, true, true, true, false, false, false, false, false] HBS (by kernel_rfl) rfl (fun _ _ _ _ _ h => h) ?_
  (refine sP (v := ?_) (a' := ?_) rfl rfl (by rfl) ?_ ?_ ?_; rotate_left 2; (· intro w'; go_simp; with_reducible rfl); (· simp only [Act.put, List.setIfInBounds_toArray, List.set_cons_zero, List.set_cons_succ, kw64, kw32]; rfl))
  (refine sB (v := ?_) (a' := ?_) rfl rfl (by rfl) ?_ ?_ ?_; rotate_left 2; (· intro w1 hg; have c9 := (HO.up hg).cell 0 rfl; go_simp; with_reducible rfl); (· simp only [Act.put, List.setIfInBounds_toArray, List.set_cons_zero, List.set_cons_succ, kw64, kw32]; rfl))
  (refine sP (v := ?_) (a' := ?_) rfl rfl (by rfl) ?_ ?_ ?_; rotate_left 2; (· intro w'; go_simp; with_reducible rfl); (· simp only [Act.put, List.setIfInBounds_toArray, List.set_cons_zero, List.set_cons_succ, kw64, kw32]; rfl))
  (refine sP (v := ?_) (a' := ?_) rfl rfl (by rfl) ?_ ?_ ?_; rotate_left 2; (· intro w'; go_simp; with_reducible rfl); (· simp only [Act.put, List.setIfInBounds_toArray, List.set_cons_zero, List.set_cons_succ, kw64, kw32]; rfl))
  (refine sP (v := ?_) (a' := ?_) rfl rfl (by rfl) ?_ ?_ ?_; rotate_left 2; (· intro w'; go_simp; with_reducible rfl); (· simp only [Act.put, List.setIfInBounds_toArray, List.set_cons_zero, List.set_cons_succ, kw64, kw32]; rfl))
  (refine sB (v := ?_) (a' := ?_) rfl rfl (by rfl) ?_ ?_ ?_; rotate_left 2; (· intro w1 hg; have c9 := (HO.up hg).cell 0 rfl; go_simp; with_reducible rfl); (· simp only [Act.put, List.setIfInBounds_toArray, List.set_cons_zero, List.set_cons_succ, kw64, kw32]; rfl))
  (refine sD (v := ?_) (a' := ?_) Try.func26 rfl rfl (by rfl) rfl (by kernel_rfl) rfl (by rfl) ?_ ?_ ?_; rotate_left 2; (· intro w1 hg; exact HFm.out w1); (· simp only [Act.put, List.setIfInBounds_toArray, List.set_cons_zero, List.set_cons_succ, kw64, kw32]; rfl))
  (refine sP (v := ?_) (a' := ?_) rfl rfl (by rfl) ?_ ?_ ?_; rotate_left 2; (· intro w'; go_simp; with_reducible rfl); (· simp only [Act.put, List.setIfInBounds_toArray, List.set_cons_zero, List.set_cons_succ, kw64, kw32]; rfl))
  (refine sP (v := ?_) (a' := ?_) rfl rfl (by rfl) ?_ ?_ ?_; rotate_left 2; (· intro w'; go_simp; with_reducible rfl); (· simp only [Act.put, List.setIfInBounds_toArray, List.set_cons_zero, List.set_cons_succ, kw64, kw32]; rfl))
  (refine sP (v := ?_) (a' := ?_) rfl rfl (by rfl) ?_ ?_ ?_; rotate_left 2; (· intro w'; go_simp; with_reducible rfl); (· simp only [Act.put, List.setIfInBounds_toArray, List.set_cons_zero, List.set_cons_succ, kw64, kw32]; rfl))
  (refine sP (v := ?_) (a' := ?_) rfl rfl (by rfl) ?_ ?_ ?_; rotate_left 2; (· intro w'; go_simp; with_reducible rfl); (· simp only [Act.put, List.setIfInBounds_toArray, List.set_cons_zero, List.set_cons_succ, kw64, kw32]; rfl))
  (refine sB (v := ?_) (a' := ?_) rfl rfl (by rfl) ?_ ?_ ?_; rotate_left 2; (· intro w1 hg; (refine Eq.trans (run_load_row 25 (.tmp 1) rfl w.heap.size (by rfl) _ #[.int .i64 0, .int .u64 (a : Int), .int .u64 (b : Int), .int .u64 (c : Int), .string i, .string ba, .int .u64 (sg : Int), .int .u64 (on : Int), .string ra, .int .u64 (pv : Int), .int .u64 (nn : Int), .string bo, .slice A n cp] _ _ ((HO.up hg).blk 0 rfl) Try.underlying25 rfl (by kernel_rfl)) ?_; with_reducible rfl)); (· simp only [Act.put, List.setIfInBounds_toArray, List.set_cons_zero, List.set_cons_succ, kw64, kw32]; rfl))
  (refine sB (v := ?_) (a' := ?_) rfl rfl (by rfl) ?_ ?_ ?_; rotate_left 2; (· intro w1 hg; (refine Eq.trans (run_load_row 25 (.tmp 1) rfl w.heap.size (by rfl) _ #[.int .i64 0, .int .u64 (a : Int), .int .u64 (b : Int), .int .u64 (c : Int), .string i, .string ba, .int .u64 (sg : Int), .int .u64 (on : Int), .string ra, .int .u64 (pv : Int), .int .u64 (nn : Int), .string bo, .slice A n cp] _ _ ((HO.up hg).blk 0 rfl) Try.underlying25 rfl (by kernel_rfl)) ?_; with_reducible rfl)); (· simp only [Act.put, List.setIfInBounds_toArray, List.set_cons_zero, List.set_cons_succ, kw64, kw32]; rfl))
  refine bone (i := 13) (N := (some 18)) #[true, true, true, true, true, true, true, true, true, true, true, true, true, true, false, false, false, false] rfl rfl (by kernel_rfl) HBS (fun w1 hg K hK => ?_)
  rw [if_pos (by rfl)]
  replace HO := HO.up hg
  refine wp_call Try.func24 rfl (by kernel_rfl) rfl (by rfl) ((HP.out w1 HO.below).mono ?_)
  rintro e w2 ⟨⟨B, d, rfl, hd, hB⟩, hb⟩
  refine ⟨_, rfl, hK _ _ (not_ds (by decide) hb) (fun HBS => ?_)⟩
  replace HO := HO.up hb
  refine at_dst (some 18) rfl ?_
  simp only [Act.put, List.setIfInBounds_toArray, List.set_cons_zero, List.set_cons_succ]
  refine bone (i := 14) (N := (some 19)) #[true, true, true, true, true, true, true, true, true, true, true, true, true, true, true, false, false, false] rfl rfl (by kernel_rfl) HBS (fun w1 hg K hK => ?_)
  rw [if_pos (by rfl)]
  replace HO := HO.up hg
  refine wp_call Try.func27 rfl (by kernel_rfl) rfl (by rfl) ((HF.out B d w1 (Kd.C_below hB (Below.mono hg (Nat.le_refl _))) hd).mono ?_)
  rintro e w2 ⟨⟨v, rfl, A2, c2, rfl, hl2, _, hC2⟩, hb⟩
  refine ⟨_, rfl, hK _ _ (not_ds (by decide) hb) (fun HBS => ?_)⟩
  replace HO := HO.up hb
  refine at_dst (some 19) rfl ?_
  simp only [Act.put, List.setIfInBounds_toArray, List.set_cons_zero, List.set_cons_succ]
  refine bseq (m := 0) (.inl rfl) [(15, false, some 20), (16, true, some 21), (17, true, some 22)] #[true, true, true, true, true, true, true, true, true, true, true, true, true, true, true, true, true, true] HBS (by kernel_rfl) rfl (fun _ _ _ _ _ h => h) ?_
  (refine sC (v := ?_) (a' := ?_) Try.func10 rfl rfl (by rfl) rfl (by kernel_rfl) rfl (by rfl) ?_ ?_ ?_; rotate_left 2; (· intro w1 hg; exact HLk.out A2 c2 w1 (HO.up hg).below (Kd.C_below hC2 hg) hl2); (· simp only [Act.put, List.setIfInBounds_toArray, List.set_cons_zero, List.set_cons_succ, kw64, kw32]; rfl))
  (refine sP (v := ?_) (a' := ?_) rfl rfl (by rfl) ?_ ?_ ?_; rotate_left 2; (· intro w'; go_simp; with_reducible rfl); (· simp only [Act.put, List.setIfInBounds_toArray, List.set_cons_zero, List.set_cons_succ, kw64, kw32]; rfl))
  (refine sP (v := ?_) (a' := ?_) rfl rfl (by rfl) ?_ ?_ ?_; rotate_left 2; (· intro w'; go_simp; with_reducible rfl); (· simp only [Act.put, List.setIfInBounds_toArray, List.set_cons_zero, List.set_cons_succ, kw64, kw32]; rfl))
  refine bdone (by kernel_rfl) (fun w1 hg => ?_)
  replace HO := HO.up hg
  clear hg HP HF HLk HFm
  cases lk with
  | false =>
    go_wp2
    go_ret
    exact ⟨rfl, HO.below⟩
  | true =>
    have hsz : (w1.alloc (.cells #[.string ra] 9)).heap.size = w1.heap.size + 1 := by simp
    have hRL : Kd.string.R 9 ((w1.alloc (.cells #[.string ra] 9)).alloc (.cells #[.string i, .string ba] 9)) w.heap.size (fun _ => True) (.slice (some ⟨w1.heap.size, 0, none⟩) 1 1) [ra] := Kd.R_alloc (show Kd.string.R 9 (w1.alloc (.cells #[.string ra] 9)) w.heap.size (fun _ => True) (.slice (some ⟨w1.heap.size, 0, none⟩) 1 1) [ra] from R_new_lit w1 w.heap.size 9 [ra] HO.below.size (by simp)) _
    have hAL := C_lit_strF (w1.alloc (.cells #[.string ra] 9)) 9 [i, ba] (by simp)
    rw [hsz] at hAL
    have HRL := Lib.hid (Aside0.mk hRL)
    have HAL := Lib.hid hAL
    have HBL := Lib.hid (below_alloc (below_alloc HO.below (.cells #[.string ra] 9)) (.cells #[.string i, .string ba] 9))
    have HOW := Lib.hid (HO.up (below_alloc (below_alloc (Below.refl _ _) (.cells #[.string ra] 9)) (.cells #[.string i, .string ba] 9)))
    have hlt := HO.lt 0 rfl
    clear hsz hRL hAL
    have c0 := HO.cell 0 rfl
    have c1 := (HO.alloc' (.cells #[.string ra] 9) rfl).cell 1 rfl
    by_cases hb : bo.size ≤ 1024
    · have e1 : (bo.size : Int) ≤ 1024 := by omega
      have HB1 := Lib.hid hb
      clear hb
      by_cases hk : n ≤ 32
      · have e2 : (n : Int) ≤ 32 := by omega
        have HK1 := Lib.hid hk
        clear hk
        go_wp2_with (at_builtin; refine app_rows Kd.string (w0 := w) (.tmp 34) (.tmp 39) 23 9 (.string ⟨#[]⟩) 16 rfl rfl Try.underlying23 info_strF rfl (by decide) (by decide) (fun _ _ h => h) _ [ra] [i, ba] _ 2 2 rfl rfl HRL.out HAL.out ⟨HBL.out⟩ (by simp) ?_; intro v1 w9 hR9 hb9 hgr; have HO9 := HOW.out.grownF hgr (fun q hq => by have e : w1.heap.size = q := Option.some.inj hq; subst e; exact ⟨by omega, by simp; omega⟩); obtain ⟨A3, c3, rfl⟩ := Kd.R_slice hR9.out; obtain ⟨_, _, hC9⟩ := Kd.R_reads' hR9.out; have HCL := Lib.hid hC9; have HBL := Lib.hid hb9.out; clear hR9 hb9 hC9 hgr c0 c1; have c9 := HO9.cell 0 rfl)
        refine (ContainsFunc_any _ 3 c3 [ra, i, ba] _ HCL.out (by decide)).mono ?_
        rintro e w5 ⟨rfl, rfl⟩
        go_wp2
        go_ret
        exact ⟨by rw [decide_eq_true HB1.out, decide_eq_true HK1.out]; rfl, HBL.out⟩
      · have e2 : ¬ ((n : Int) ≤ 32) := by omega
        have HK1 := Lib.hid hk
        clear hk
        go_wp2_with (at_builtin; refine app_rows Kd.string (w0 := w) (.tmp 34) (.tmp 39) 23 9 (.string ⟨#[]⟩) 16 rfl rfl Try.underlying23 info_strF rfl (by decide) (by decide) (fun _ _ h => h) _ [ra] [i, ba] _ 2 2 rfl rfl HRL.out HAL.out ⟨HBL.out⟩ (by simp) ?_; intro v1 w9 hR9 hb9 hgr; have HO9 := HOW.out.grownF hgr (fun q hq => by have e : w1.heap.size = q := Option.some.inj hq; subst e; exact ⟨by omega, by simp; omega⟩); obtain ⟨A3, c3, rfl⟩ := Kd.R_slice hR9.out; obtain ⟨_, _, hC9⟩ := Kd.R_reads' hR9.out; have HCL := Lib.hid hC9; have HBL := Lib.hid hb9.out; clear hR9 hb9 hC9 hgr c0 c1; have c9 := HO9.cell 0 rfl)
        go_ret
        exact ⟨by rw [decide_eq_true HB1.out, decide_eq_false HK1.out]; rfl, HBL.out⟩
    · have e1 : ¬ ((bo.size : Int) ≤ 1024) := by omega
      have HB1 := Lib.hid hb
      clear hb
      go_wp2_with (at_builtin; refine app_rows Kd.string (w0 := w) (.tmp 34) (.tmp 39) 23 9 (.string ⟨#[]⟩) 16 rfl rfl Try.underlying23 info_strF rfl (by decide) (by decide) (fun _ _ h => h) _ [ra] [i, ba] _ 2 2 rfl rfl HRL.out HAL.out ⟨HBL.out⟩ (by simp) ?_; intro v1 w9 hR9 hb9 hgr; have HO9 := HOW.out.grownF hgr (fun q hq => by have e : w1.heap.size = q := Option.some.inj hq; subst e; exact ⟨by omega, by simp; omega⟩); obtain ⟨A3, c3, rfl⟩ := Kd.R_slice hR9.out; obtain ⟨_, _, hC9⟩ := Kd.R_reads' hR9.out; have HCL := Lib.hid hC9; have HBL := Lib.hid hb9.out; clear hR9 hb9 hC9 hgr c0 c1; have c9 := HO9.cell 0 rfl)
      go_ret
      exact ⟨by rw [decide_eq_false HB1.out]; rfl, HBL.out⟩
theorem Right_any (f : FrD) (A : Option Addr) (cp : Nat) (w : World) (hC : Kd.string.C w A f.keys.length f.keys) (hc : f.keys.length ≤ cp) (hn : f.keys.length ≤ 1000000) :
    Calls Try.prog 8 #[frV f (.slice A f.keys.length cp)] w fun e w' => e = .returned (.bool (rightF f)) ∧ Below w.heap.size w w' := by
  obtain ⟨kd, a, b, c, i, ba, sg, on, ra, pv, nn, bo, ks⟩ := f
  dsimp only at *
  by_cases h1 : kd < 0
  · exact Right_neg kd h1 a b c i ba sg on ra pv nn bo ks A cp w hC hc hn
  · by_cases h2 : 3 ≤ kd
    · exact Right_big kd h2 a b c i ba sg on ra pv nn bo ks A cp w hC hc hn
    · have hk : kd = 0 ∨ kd = 1 ∨ kd = 2 := by omega
      rcases hk with rfl | rfl | rfl
      · exact Right_k0 a b c i ba sg on ra pv nn bo ks A cp w hC hc hn
      · exact Right_k1 a b c i ba sg on ra pv nn bo ks A cp w hC hc hn
      · exact Right_k2 a b c i ba sg on ra pv nn bo ks A cp w hC hc hn
end Go.Proofs.Ytfghjahmnjghgaa

import Derived.Test.YtpbaolijacimjaaDoorDl
set_option linter.unusedSimpArgs false
/- LAYER 6: LockProves. -/
namespace Go.Proofs.YtpbaolijacimjaaDoor
open Go.RowKit Go.Proofs.YtpbaolijacimjaaDoorW.PrintWords
/-- a byte as a number, whatever it is -/
def b8 (b : Int) : Nat := (BitVec.ofInt 8 b).toNat
theorem b8_lt (b : Int) : b8 b < 256 := (BitVec.ofInt 8 b).isLt
theorem xor8b (a : Nat) (b : Int) (ha : a < 256) : Go.bits .xor .u8 (a : Int) b = ((a ^^^ b8 b : Nat) : Int) := by
  have hb := b8_lt b
  have h : (BitVec.ofNat 8 a ^^^ BitVec.ofInt 8 b).toNat = a ^^^ b8 b := by
    rw [BitVec.toNat_xor, BitVec.toNat_ofNat, Nat.mod_eq_of_lt (by omega)]; rfl
  have hl : a ^^^ b8 b < 256 := by rw [← h]; exact BitVec.isLt _
  unfold bits
  rw [show BitVec.ofInt IntKind.u8.bits (a : Int) = BitVec.ofNat 8 a from BitVec.ofInt_natCast 8 a]
  show IntKind.u8.wrap (((BitVec.ofNat 8 a ^^^ BitVec.ofInt 8 b).toNat : Nat) : Int) = _
  rw [h]
  show ((a ^^^ b8 b : Nat) : Int) % 256 = _
  omega
theorem xor_four (a m b : Nat) : a ^^^ m ^^^ b ^^^ m = a ^^^ b := by
  apply Nat.eq_of_testBit_eq
  intro i
  simp only [Nat.testBit_xor]
  cases a.testBit i <;> cases m.testBit i <;> cases b.testBit i <;> rfl
theorem xorL_set (L M : List Nat) (i b : Nat) (hi : i < L.length) : xorL ((xorL L M).set i (L.getD i 0 ^^^ M.getD i 0 ^^^ b)) M = L.set i (L.getD i 0 ^^^ b) := by
  refine List.ext_getElem? fun j => ?_
  rw [List.getElem?_set]
  rcases Nat.lt_or_ge j L.length with h | h
  · rw [xorL_get _ _ _ (by rw [List.length_set, xorL_len]; exact h), List.getD_eq_getElem?_getD, List.getElem?_set]
    by_cases hj : i = j
    · subst hj
      rw [if_pos rfl, if_pos (by rw [xorL_len]; exact hi), if_pos rfl, if_pos hi, Option.getD_some, xor_four]
    · rw [if_neg hj, if_neg hj, xorL_get L M j h, Option.getD_some, Nat.xor_assoc, Nat.xor_self, Nat.xor_zero, List.getD_eq_getElem?_getD, List.getElem?_eq_getElem h]; rfl
  · rw [List.getElem?_eq_none (by rw [xorL_len, List.length_set, xorL_len]; exact h)]
    by_cases hj : i = j
    · omega
    · rw [if_neg hj, List.getElem?_eq_none h]
theorem set_lt (L : List Nat) (hL : ∀ d ∈ L, d < 256) (i x : Nat) (hx : x < 256) : ∀ d ∈ L.set i x, d < 256 := fun d hd => by
  rcases List.mem_or_eq_of_mem_set hd with h | h
  · exact hL d h
  · rw [h]; exact hx
theorem bOf_xorF (h n s : ByteArray) : bOf (xorF h n s) = xorL (bOf s) (bOf (stmF h n s.size)) := by
  unfold xorF
  exact bOf_str _ (xorL_lt _ _ (bOf_lt _) (bOf_lt _))
/-- a byte of what is locked is changed: what is opened differs there -/
theorem xorF_set (h n s : ByteArray) (i b : Nat) (hi : i < s.size) (hb : b < 256) :
    xorF h n (bStr ((bOf (xorF h n s)).set i ((bOf (xorF h n s)).getD i 0 ^^^ b))) = bStr ((bOf s).set i ((bOf s).getD i 0 ^^^ b)) := by
  have hl := bOf_len s
  have hxi : (bOf (xorF h n s)).getD i 0 = (bOf s).getD i 0 ^^^ (bOf (stmF h n s.size)).getD i 0 := by
    rw [bOf_xorF, List.getD_eq_getElem?_getD, xorL_get _ _ _ (by omega)]; rfl
  have hx : ∀ d ∈ (bOf (xorF h n s)).set i ((bOf (xorF h n s)).getD i 0 ^^^ b), d < 256 := set_lt _ (bOf_lt _) _ _ (xor_lt (getD_lt _ (bOf_lt _) _) hb)
  have hz : (bStr ((bOf (xorF h n s)).set i ((bOf (xorF h n s)).getD i 0 ^^^ b))).size = s.size := by
    rw [bStr_size, List.length_set, bOf_xorF, xorL_len, hl]
  have e : xorF h n (bStr ((bOf (xorF h n s)).set i ((bOf (xorF h n s)).getD i 0 ^^^ b))) = bStr (xorL (bOf (bStr ((bOf (xorF h n s)).set i ((bOf (xorF h n s)).getD i 0 ^^^ b)))) (bOf (stmF h n (bStr ((bOf (xorF h n s)).set i ((bOf (xorF h n s)).getD i 0 ^^^ b))).size))) := rfl
  rw [e, hz, bOf_str _ hx, hxi, bOf_xorF, xorL_set _ _ _ _ (by omega)]
theorem ByRow.far {w : World} {g g' : Nat} {l : List Nat} (h : ByRow w g l) (hne : g' ≠ g) (j : Nat) (v : Value) : ByRow (w.setCell ⟨g', j, none⟩ v) g l := by
  obtain ⟨tail, fr, h, hf⟩ := h.out
  refine ⟨tail, fr, ?_, hf⟩
  simp [World.setCell, Array.getElem?_modify, h, hne]
attribute [local irreducible] Calls mixF
set_option maxHeartbeats 8000000 in
set_option maxRecDepth 100000 in
theorem LockProves_m (k0 head0 text0 : ByteArray) (at0 by0 : Int) (W : World) (h2 : mayL (headB k0 40) (cutF head0 60) ((cutF text0 100).size : Int) = false) (hK : KeysAt W) :
    Calls Tryd.prog 5 #[.string k0, .string head0, .string text0, .int .i64 at0, .int .u8 by0] W fun e W' => e = .returned (.bool true) ∧ Below W.heap.size W W' := by
  have hkz := headB_size k0 40
  have HC1 := Lib.hid (cut60 head0)
  have HC2 := Lib.hid (cut100 text0)
  have HBB := Lib.hid (show headB k0 40 = k0.extract 0 (min k0.size 40) from rfl)
  generalize headB k0 40 = k at *
  generalize cutF head0 60 = head at *
  generalize cutF text0 100 = text at *
  have HAl := Lib.hid (fun w1 (hg : Gr W w1) => alive06 w1 (hK.up hg))
  have HL := Lib.hid (fun w1 => Lock_no k head text w1 h2)
  clear h2 hK
  have HO := Own.start W
  go_enter Tryd.func5, Tryd.ntmps5
  go_wp2_with fail
  refine kall [(0, true, some 25), (1, true, some 26), (2, true, some 27), (3, true, some 28), (4, true, some 29), (5, true, some 30), (7, true, some 32), (6, true, some 31), (8, true, some 33), (9, true, some 0), (10, true, some 1), (11, true, some 2)] (by kernel_rfl) rfl (by kernel_rfl) rfl (fun _ _ _ _ _ h => h) ?_
  (refine sP (v := ?_) (a' := ?_) rfl rfl (by rfl) ?_ ?_ ?_; rotate_left 2; (· intro w'; go_simp; with_reducible rfl); (· simp only [Act.put, List.setIfInBounds_toArray, List.set_cons_zero, List.set_cons_succ, kw64, kw32]; rfl))
  (refine sP (v := ?_) (a' := ?_) rfl rfl (by rfl) ?_ ?_ ?_; rotate_left 2; (· intro w'; go_simp; with_reducible rfl); (· simp only [Act.put, List.setIfInBounds_toArray, List.set_cons_zero, List.set_cons_succ, kw64, kw32]; rfl))
  (refine sP (v := ?_) (a' := ?_) rfl rfl (by rfl) ?_ ?_ ?_; rotate_left 2; (· intro w'; go_simp; with_reducible rfl); (· simp only [Act.put, List.setIfInBounds_toArray, List.set_cons_zero, List.set_cons_succ, kw64, kw32]; rfl))
  (refine sP (v := ?_) (a' := ?_) rfl rfl (by rfl) ?_ ?_ ?_; rotate_left 2; (· intro w'; go_simp; with_reducible rfl); (· simp only [Act.put, List.setIfInBounds_toArray, List.set_cons_zero, List.set_cons_succ, kw64, kw32]; rfl))
  (refine sP (v := .string k) (a' := ?_) rfl rfl (by rfl) ?_ ?_ ?_; rotate_left 1; (· intro w'; go_simp; rw [if_pos ⟨by omega, by omega⟩, HBB.out, ← show (min (k0.size : Int) 40).toNat = min k0.size 40 by omega]); (· simp only [Act.put, List.setIfInBounds_toArray, List.set_cons_zero, List.set_cons_succ, kw64, kw32]; rfl))
  (refine sP (v := ?_) (a' := ?_) rfl rfl (by rfl) ?_ ?_ ?_; rotate_left 2; (· intro w'; go_simp; with_reducible rfl); (· simp only [Act.put, List.setIfInBounds_toArray, List.set_cons_zero, List.set_cons_succ, kw64, kw32]; rfl))
  (refine sP (v := ?_) (a' := ?_) rfl rfl (by rfl) ?_ ?_ ?_; rotate_left 2; (· intro w'; go_simp; with_reducible rfl); (· simp only [Act.put, List.setIfInBounds_toArray, List.set_cons_zero, List.set_cons_succ, kw64, kw32]; rfl))
  (refine sD (v := ?_) (a' := ?_) Tryd.func7 rfl rfl (by rfl) rfl (by kernel_rfl) rfl (by rfl) ?_ ?_ ?_; rotate_left 2; (· intro w1 hg; exact HC1.out w1); (· simp only [Act.put, List.setIfInBounds_toArray, List.set_cons_zero, List.set_cons_succ, kw64, kw32]; rfl))
  (refine sD (v := ?_) (a' := ?_) Tryd.func7 rfl rfl (by rfl) rfl (by kernel_rfl) rfl (by rfl) ?_ ?_ ?_; rotate_left 2; (· intro w1 hg; exact HC2.out w1); (· simp only [Act.put, List.setIfInBounds_toArray, List.set_cons_zero, List.set_cons_succ, kw64, kw32]; rfl))
  (refine sP (v := ?_) (a' := ?_) rfl rfl (by rfl) ?_ ?_ ?_; rotate_left 2; (· intro w'; go_simp; with_reducible rfl); (· simp only [Act.put, List.setIfInBounds_toArray, List.set_cons_zero, List.set_cons_succ, kw64, kw32]; rfl))
  (refine sP (v := ?_) (a' := ?_) rfl rfl (by rfl) ?_ ?_ ?_; rotate_left 2; (· intro w'; go_simp; with_reducible rfl); (· simp only [Act.put, List.setIfInBounds_toArray, List.set_cons_zero, List.set_cons_succ, kw64, kw32]; rfl))
  (refine sP (v := ?_) (a' := ?_) rfl rfl (by rfl) ?_ ?_ ?_; rotate_left 2; (· intro w'; go_simp; with_reducible rfl); (· simp only [Act.put, List.setIfInBounds_toArray, List.set_cons_zero, List.set_cons_succ, kw64, kw32]; rfl))
  intro w1 hg
  replace HO := HO.up hg
  clear hg hkz
  go_wp2_with fail
  refine (HL.out _).mono ?_
  rintro e w3 ⟨rfl, hb⟩
  replace HO := HO.up hb
  clear hb
  go_wp2_with fail
  refine (HAl.out _ HO.below).mono ?_
  rintro e w3 ⟨rfl, hb⟩
  replace HO := HO.up hb
  clear hb
  go_wp2
  go_ret
  exact ⟨rfl, HO.below⟩
set_option maxHeartbeats 8000000 in
set_option maxRecDepth 100000 in
theorem LockProves_z (k0 head0 text0 : ByteArray) (at0 by0 : Int) (W : World) (h2 : mayL (headB k0 40) (cutF head0 60) ((cutF text0 100).size : Int) = true) (hz : (cutF text0 100).size = 0) (hK : KeysAt W) :
    Calls Tryd.prog 5 #[.string k0, .string head0, .string text0, .int .i64 at0, .int .u8 by0] W fun e W' => e = .returned (.bool true) ∧ Below W.heap.size W W' := by
  have hkz := headB_size k0 40
  have HC1 := Lib.hid (cut60 head0)
  have HC2 := Lib.hid (cut100 text0)
  have HBB := Lib.hid (show headB k0 40 = k0.extract 0 (min k0.size 40) from rfl)
  generalize headB k0 40 = k at *
  generalize cutF head0 60 = head at *
  generalize cutF text0 100 = text at *
  have HAl := Lib.hid (fun w1 (hg : Gr W w1) => alive06 w1 (hK.up hg))
  obtain ⟨q1, q2, q3, q4⟩ := (mayL_iff _ _ _).1 h2
  have HL := Lib.hid (fun w1 (hg : Gr W w1) => Lock_yes k head text w1 h2 (hK.up hg))
  have HOp := Lib.hid (fun w1 (hg : Gr W w1) => Open_lock k head text w1 h2 (hK.up hg))
  have HKy := Lib.hid (fun w1 (hg : Gr W w1) => Keys_yes k w1 q1 (hK.up hg))
  have hls : ((lockF k head text).size : Int) = (text.size : Int) + 32 := by rw [lockF_size]; omega
  have x0 : (text.toList == text.toList) = true := by simp
  have hz0 : (text.size : Int) = 0 := by omega
  clear q1 q2 q3 q4 h2 hK
  generalize lockF k head text = lk at *
  generalize kHF k = kh at *
  generalize kTF k = kt at *
  generalize kNF k = kn at *
  have HO := Own.start W
  go_enter Tryd.func5, Tryd.ntmps5
  go_wp2_with fail
  refine kall [(0, true, some 25), (1, true, some 26), (2, true, some 27), (3, true, some 28), (4, true, some 29), (5, true, some 30), (7, true, some 32), (6, true, some 31), (8, true, some 33), (9, true, some 0), (10, true, some 1), (11, true, some 2)] (by kernel_rfl) rfl (by kernel_rfl) rfl (fun _ _ _ _ _ h => h) ?_
  (refine sP (v := ?_) (a' := ?_) rfl rfl (by rfl) ?_ ?_ ?_; rotate_left 2; (· intro w'; go_simp; with_reducible rfl); (· simp only [Act.put, List.setIfInBounds_toArray, List.set_cons_zero, List.set_cons_succ, kw64, kw32]; rfl))
  (refine sP (v := ?_) (a' := ?_) rfl rfl (by rfl) ?_ ?_ ?_; rotate_left 2; (· intro w'; go_simp; with_reducible rfl); (· simp only [Act.put, List.setIfInBounds_toArray, List.set_cons_zero, List.set_cons_succ, kw64, kw32]; rfl))
  (refine sP (v := ?_) (a' := ?_) rfl rfl (by rfl) ?_ ?_ ?_; rotate_left 2; (· intro w'; go_simp; with_reducible rfl); (· simp only [Act.put, List.setIfInBounds_toArray, List.set_cons_zero, List.set_cons_succ, kw64, kw32]; rfl))
  (refine sP (v := ?_) (a' := ?_) rfl rfl (by rfl) ?_ ?_ ?_; rotate_left 2; (· intro w'; go_simp; with_reducible rfl); (· simp only [Act.put, List.setIfInBounds_toArray, List.set_cons_zero, List.set_cons_succ, kw64, kw32]; rfl))
  (refine sP (v := .string k) (a' := ?_) rfl rfl (by rfl) ?_ ?_ ?_; rotate_left 1; (· intro w'; go_simp; rw [if_pos ⟨by omega, by omega⟩, HBB.out, ← show (min (k0.size : Int) 40).toNat = min k0.size 40 by omega]); (· simp only [Act.put, List.setIfInBounds_toArray, List.set_cons_zero, List.set_cons_succ, kw64, kw32]; rfl))
  (refine sP (v := ?_) (a' := ?_) rfl rfl (by rfl) ?_ ?_ ?_; rotate_left 2; (· intro w'; go_simp; with_reducible rfl); (· simp only [Act.put, List.setIfInBounds_toArray, List.set_cons_zero, List.set_cons_succ, kw64, kw32]; rfl))
  (refine sP (v := ?_) (a' := ?_) rfl rfl (by rfl) ?_ ?_ ?_; rotate_left 2; (· intro w'; go_simp; with_reducible rfl); (· simp only [Act.put, List.setIfInBounds_toArray, List.set_cons_zero, List.set_cons_succ, kw64, kw32]; rfl))
  (refine sD (v := ?_) (a' := ?_) Tryd.func7 rfl rfl (by rfl) rfl (by kernel_rfl) rfl (by rfl) ?_ ?_ ?_; rotate_left 2; (· intro w1 hg; exact HC1.out w1); (· simp only [Act.put, List.setIfInBounds_toArray, List.set_cons_zero, List.set_cons_succ, kw64, kw32]; rfl))
  (refine sD (v := ?_) (a' := ?_) Tryd.func7 rfl rfl (by rfl) rfl (by kernel_rfl) rfl (by rfl) ?_ ?_ ?_; rotate_left 2; (· intro w1 hg; exact HC2.out w1); (· simp only [Act.put, List.setIfInBounds_toArray, List.set_cons_zero, List.set_cons_succ, kw64, kw32]; rfl))
  (refine sP (v := ?_) (a' := ?_) rfl rfl (by rfl) ?_ ?_ ?_; rotate_left 2; (· intro w'; go_simp; with_reducible rfl); (· simp only [Act.put, List.setIfInBounds_toArray, List.set_cons_zero, List.set_cons_succ, kw64, kw32]; rfl))
  (refine sP (v := ?_) (a' := ?_) rfl rfl (by rfl) ?_ ?_ ?_; rotate_left 2; (· intro w'; go_simp; with_reducible rfl); (· simp only [Act.put, List.setIfInBounds_toArray, List.set_cons_zero, List.set_cons_succ, kw64, kw32]; rfl))
  (refine sP (v := ?_) (a' := ?_) rfl rfl (by rfl) ?_ ?_ ?_; rotate_left 2; (· intro w'; go_simp; with_reducible rfl); (· simp only [Act.put, List.setIfInBounds_toArray, List.set_cons_zero, List.set_cons_succ, kw64, kw32]; rfl))
  intro w1 hg
  replace HO := HO.up hg
  clear hg hkz
  go_wp2_with fail
  refine (HL.out _ HO.below).mono ?_
  rintro e w3 ⟨rfl, hb⟩
  replace HO := HO.up hb
  clear hb
  go_wp2_with fail
  refine (HOp.out _ HO.below).mono ?_
  rintro e w3 ⟨rfl, hb⟩
  replace HO := HO.up hb
  clear hb
  go_wp2_with fail
  refine (HKy.out _ HO.below).mono ?_
  rintro e w3 ⟨rfl, hb⟩
  replace HO := HO.up hb
  clear hb
  go_wp2_with fail
  refine (HAl.out _ HO.below).mono ?_
  rintro e w3 ⟨rfl, hb⟩
  replace HO := HO.up hb
  clear hb
  go_wp2
  go_ret
  exact ⟨rfl, HO.below⟩
set_option maxHeartbeats 8000000 in
set_option maxRecDepth 100000 in
theorem LockProves_p (k0 head0 text0 : ByteArray) (at0 by0 : Int) (W : World) (h2 : mayL (headB k0 40) (cutF head0 60) ((cutF text0 100).size : Int) = true) (hz : 0 < (cutF text0 100).size) (hK : KeysAt W) :
    Calls Tryd.prog 5 #[.string k0, .string head0, .string text0, .int .i64 at0, .int .u8 by0] W fun e W' => e = .returned (.bool true) ∧ Below W.heap.size W W' := by
  have hkz := headB_size k0 40
  have HC1 := Lib.hid (cut60 head0)
  have HC2 := Lib.hid (cut100 text0)
  have HBB := Lib.hid (show headB k0 40 = k0.extract 0 (min k0.size 40) from rfl)
  generalize headB k0 40 = k at *
  generalize cutF head0 60 = head at *
  generalize cutF text0 100 = text at *
  have HAl := Lib.hid (fun w1 (hg : Gr W w1) => alive06 w1 (hK.up hg))
  obtain ⟨q1, q2, q3, q4⟩ := (mayL_iff _ _ _).1 h2
  have HL := Lib.hid (fun w1 (hg : Gr W w1) => Lock_yes k head text w1 h2 (hK.up hg))
  have HOp := Lib.hid (fun w1 (hg : Gr W w1) => Open_lock k head text w1 h2 (hK.up hg))
  have HKy := Lib.hid (fun w1 (hg : Gr W w1) => Keys_yes k w1 q1 (hK.up hg))
  have hls : ((lockF k head text).size : Int) = (text.size : Int) + 32 := by rw [lockF_size]; omega
  have x0 : (text.toList == text.toList) = true := by simp
  obtain ⟨r1, hr1⟩ : ∃ r, r = Int.tmod at0 (text.size : Int) := ⟨_, rfl⟩
  have hr2 : -(text.size : Int) < r1 ∧ r1 < (text.size : Int) := by
    rw [hr1]
    constructor
    · have := Int.lt_tmod_of_pos at0 (show (0 : Int) < (text.size : Int) by omega); exact this
    · exact Int.tmod_lt_of_pos _ (by omega)
  obtain ⟨s1, hs1⟩ : ∃ s : Nat, r1 + (text.size : Int) = (s : Int) := ⟨(r1 + (text.size : Int)).toNat, by omega⟩
  obtain ⟨i, hi⟩ : ∃ i : Nat, i = s1 % text.size := ⟨_, rfl⟩
  have hi1 : i < text.size := by rw [hi]; exact Nat.mod_lt _ hz
  have hi2 : Int.tmod (s1 : Int) (text.size : Int) = (i : Int) := by rw [hi, Int.tmod_eq_emod_of_nonneg (by omega)]; rfl
  have hi3 : (s1 : Int) % (text.size : Int) = (i : Int) := by rw [hi]; rfl
  have hr1' := hr1.symm
  clear hr1 hi
  have hz0 : ¬ ((text.size : Int) = 0) := by omega
  have HXs := xorF_size (kHF k) (kNF k) text
  have HSl := Lib.hid (show (lockF k head text).extract 0 text.size = xorF (kHF k) (kNF k) text by
    have := app_head (xorF (kHF k) (kNF k) text) (tagF (kTF k) (hdF head.size ++ head ++ xorF (kHF k) (kNF k) text))
    rw [xorF_size] at this; exact this)
  have HSet := xorF_set (kHF k) (kNF k) text i (b8 by0) hi1 (b8_lt by0)
  obtain ⟨l1, hl1⟩ : ∃ l, l = (bOf (xorF (kHF k) (kNF k) text)).set i ((bOf (xorF (kHF k) (kNF k) text)).getD i 0 ^^^ b8 by0) := ⟨_, rfl⟩
  obtain ⟨l2, hl2⟩ : ∃ l, l = (bOf text).set i ((bOf text).getD i 0 ^^^ b8 by0) := ⟨_, rfl⟩
  rw [← hl1, ← hl2] at HSet
  have hl1n : l1.length = text.size := by rw [hl1, List.length_set, bOf_len, xorF_size]
  have hl2n : l2.length = text.size := by rw [hl2, List.length_set, bOf_len]
  have hb1 : (bStr l1).size = text.size := by rw [bStr_size, hl1n]
  have hm3 : mayL (kTF k) head ((bStr l1).size : Int) = true := (mayL_iff _ _ _).2 ⟨kTF_size k, q2, by omega, by omega⟩
  have HAg := Lib.hid (fun w1 (hg : Gr W w1) => Again_yes (kTF k) head (bStr l1) w1 hm3 (hK.up hg))
  have hts := tagB_size (kTF k) head (bStr l1)
  have HO2 := Lib.hid (fun w1 (hg : Gr W w1) => by
    have h := Open_yes k head (tagB (kTF k) head (bStr l1)) w1 ((mayL_iff _ _ _).2 ⟨q1, q2, by omega, by omega⟩) (hK.up hg)
    rw [bodyF_tag, if_pos rfl, HSet] at h
    exact h)
  have x1 : ((bStr l2).toList == (bStr l2).toList) = true := by simp
  have HL1 := Lib.hid hl1
  have HL2 := Lib.hid hl2
  have hi4 : (0 : Int) ≤ (i : Int) := by omega
  have hi5 : (i : Int) < (text.size : Int) := by omega
  have hi6 : (bOf (xorF (kHF k) (kNF k) text)).length = text.size := by rw [bOf_len, HXs]
  have hi7 : (bOf text).length = text.size := bOf_len text
  have hsl1 : (text.size : Int) ≤ (text.size : Int) + 32 := by omega
  have hsl2 : (0 : Int) ≤ (text.size : Int) := by omega
  have hsl3 : (text.size : Int) ≤ 1024 := q4
  clear hl1 hl2 hb1 hm3 hts q1 q2 q3 q4 h2 HSet hz HXs hK
  obtain ⟨a1, ha1⟩ : ∃ n, (bOf (xorF (kHF k) (kNF k) text))[i]? = some n := ⟨_, List.getElem?_eq_getElem (by omega)⟩
  have ha1' := bOf_lt _ a1 (List.mem_of_getElem? ha1)
  obtain ⟨a2, ha2⟩ : ∃ n, (bOf text)[i]? = some n := ⟨_, List.getElem?_eq_getElem (by omega)⟩
  have ha2' := bOf_lt _ a2 (List.mem_of_getElem? ha2)
  rw [show (bOf (xorF (kHF k) (kNF k) text)).getD i 0 = a1 by rw [List.getD_eq_getElem?_getD, ha1]; rfl] at HL1
  rw [show (bOf text).getD i 0 = a2 by rw [List.getD_eq_getElem?_getD, ha2]; rfl] at HL2
  have e1 := xor8b a1 by0 ha1'
  have e2 := xor8b a2 by0 ha2'
  generalize tagB (kTF k) head (bStr l1) = tg at *
  generalize lockF k head text = lk at *
  generalize xorF (kHF k) (kNF k) text = x at *
  generalize kHF k = kh at *
  generalize kTF k = kt at *
  generalize kNF k = kn at *
  generalize b8 by0 = bb at *
  have HO := Own.start W
  go_enter Tryd.func5, Tryd.ntmps5
  go_wp2_with fail
  refine kall [(0, true, some 25), (1, true, some 26), (2, true, some 27), (3, true, some 28), (4, true, some 29), (5, true, some 30), (7, true, some 32), (6, true, some 31), (8, true, some 33), (9, true, some 0), (10, true, some 1), (11, true, some 2)] (by kernel_rfl) rfl (by kernel_rfl) rfl (fun _ _ _ _ _ h => h) ?_
  (refine sP (v := ?_) (a' := ?_) rfl rfl (by rfl) ?_ ?_ ?_; rotate_left 2; (· intro w'; go_simp; with_reducible rfl); (· simp only [Act.put, List.setIfInBounds_toArray, List.set_cons_zero, List.set_cons_succ, kw64, kw32]; rfl))
  (refine sP (v := ?_) (a' := ?_) rfl rfl (by rfl) ?_ ?_ ?_; rotate_left 2; (· intro w'; go_simp; with_reducible rfl); (· simp only [Act.put, List.setIfInBounds_toArray, List.set_cons_zero, List.set_cons_succ, kw64, kw32]; rfl))
  (refine sP (v := ?_) (a' := ?_) rfl rfl (by rfl) ?_ ?_ ?_; rotate_left 2; (· intro w'; go_simp; with_reducible rfl); (· simp only [Act.put, List.setIfInBounds_toArray, List.set_cons_zero, List.set_cons_succ, kw64, kw32]; rfl))
  (refine sP (v := ?_) (a' := ?_) rfl rfl (by rfl) ?_ ?_ ?_; rotate_left 2; (· intro w'; go_simp; with_reducible rfl); (· simp only [Act.put, List.setIfInBounds_toArray, List.set_cons_zero, List.set_cons_succ, kw64, kw32]; rfl))
  (refine sP (v := .string k) (a' := ?_) rfl rfl (by rfl) ?_ ?_ ?_; rotate_left 1; (· intro w'; go_simp; rw [if_pos ⟨by omega, by omega⟩, HBB.out, ← show (min (k0.size : Int) 40).toNat = min k0.size 40 by omega]); (· simp only [Act.put, List.setIfInBounds_toArray, List.set_cons_zero, List.set_cons_succ, kw64, kw32]; rfl))
  (refine sP (v := ?_) (a' := ?_) rfl rfl (by rfl) ?_ ?_ ?_; rotate_left 2; (· intro w'; go_simp; with_reducible rfl); (· simp only [Act.put, List.setIfInBounds_toArray, List.set_cons_zero, List.set_cons_succ, kw64, kw32]; rfl))
  (refine sP (v := ?_) (a' := ?_) rfl rfl (by rfl) ?_ ?_ ?_; rotate_left 2; (· intro w'; go_simp; with_reducible rfl); (· simp only [Act.put, List.setIfInBounds_toArray, List.set_cons_zero, List.set_cons_succ, kw64, kw32]; rfl))
  (refine sD (v := ?_) (a' := ?_) Tryd.func7 rfl rfl (by rfl) rfl (by kernel_rfl) rfl (by rfl) ?_ ?_ ?_; rotate_left 2; (· intro w1 hg; exact HC1.out w1); (· simp only [Act.put, List.setIfInBounds_toArray, List.set_cons_zero, List.set_cons_succ, kw64, kw32]; rfl))
  (refine sD (v := ?_) (a' := ?_) Tryd.func7 rfl rfl (by rfl) rfl (by kernel_rfl) rfl (by rfl) ?_ ?_ ?_; rotate_left 2; (· intro w1 hg; exact HC2.out w1); (· simp only [Act.put, List.setIfInBounds_toArray, List.set_cons_zero, List.set_cons_succ, kw64, kw32]; rfl))
  (refine sP (v := ?_) (a' := ?_) rfl rfl (by rfl) ?_ ?_ ?_; rotate_left 2; (· intro w'; go_simp; with_reducible rfl); (· simp only [Act.put, List.setIfInBounds_toArray, List.set_cons_zero, List.set_cons_succ, kw64, kw32]; rfl))
  (refine sP (v := ?_) (a' := ?_) rfl rfl (by rfl) ?_ ?_ ?_; rotate_left 2; (· intro w'; go_simp; with_reducible rfl); (· simp only [Act.put, List.setIfInBounds_toArray, List.set_cons_zero, List.set_cons_succ, kw64, kw32]; rfl))
  (refine sP (v := ?_) (a' := ?_) rfl rfl (by rfl) ?_ ?_ ?_; rotate_left 2; (· intro w'; go_simp; with_reducible rfl); (· simp only [Act.put, List.setIfInBounds_toArray, List.set_cons_zero, List.set_cons_succ, kw64, kw32]; rfl))
  intro w1 hg
  replace HO := HO.up hg
  clear hg hkz
  go_wp2_with fail
  refine (HL.out _ HO.below).mono ?_
  rintro e w3 ⟨rfl, hb⟩
  replace HO := HO.up hb
  clear hb
  go_wp2_with fail
  refine (HOp.out _ HO.below).mono ?_
  rintro e w3 ⟨rfl, hb⟩
  replace HO := HO.up hb
  clear hb
  go_wp2_with fail
  refine (HKy.out _ HO.below).mono ?_
  rintro e w3 ⟨rfl, hb⟩
  replace HO := HO.up hb
  clear hb
  go_wp2_with fail
  refine (HAl.out _ HO.below).mono ?_
  rintro e w3 ⟨rfl, hb⟩
  replace HO := HO.up hb
  clear hb
  have HB := Lib.hid HO.below
  clear HO HL HOp HKy HAl
  go_wp2_with ((with_reducible refine wpList_by rfl _ rfl _ rfl ?_); first | (have _h := HR1; intro g2 cp2 w6 hg2 HR2 hb2) | (intro g1 cp1 w5 hg1 HR1 hb1))
  rw [← hg1, ← hg2, HSl.out, hi6]
  have hne : g1 ≠ g2 := by have := HR1.lt; omega
  have hne2 : g2 ≠ g1 := fun h => hne h.symm
  have Hge1 := Aside0.mk (show W.heap.size ≤ g1 by have := HB.out.size; omega)
  have Hge2 := Aside0.mk (show W.heap.size ≤ g2 by have := HB.out.size; have := hb1.size; omega)
  replace HB := Aside0.mk ((HB.out.trans (Below.mono hb1 HB.out.size)).trans (Below.mono hb2 (Nat.le_trans HB.out.size hb1.size)))
  replace HR2 := Aside0.mk HR2
  have HR1' := Aside0.mk (HR1.up hb2)
  rw [HSl.out] at HR1'
  clear HR1 _h
  have HR1 := HR1'
  clear HR1' hg1 hg2 hb1 hb2 HSl
  have hj1 : i < (bOf x).length := by omega
  have hj2 : i < (bOf text).length := by omega
  refine bstart (fun _ => W.heap.size) (n := 20) (ds := [17, 19]) #[false, false, false, false, false, false, false, false, false, false, false, false, false, false, false, false, false, false, false, false] (by kernel_rfl) rfl rfl HB.out.size (fun HBS => ?_)
  refine bseq (m := 3) (.inl rfl) [(0, true, some 105), (1, true, some 106), (2, true, some 107), (3, true, some 108), (4, true, some 109), (5, true, some 110), (6, true, some 111), (8, true, some 113), (10, true, some 115), (11, true, some 116), (12, true, some 117), (14, true, some 119), (7, false, some 112), (9, true, some 114), (13, false, some 118), (15, true, some 120), (16, true, some 121)] #[true, true, true, true, true, true, true, true, true, true, true, true, true, true, true, true, true, false, false, false] HBS (by kernel_rfl) rfl (fun _ _ _ _ _ h => h) ?_
  (refine sP (v := ?_) (a' := ?_) rfl rfl (by rfl) ?_ ?_ ?_; rotate_left 2; (· intro w'; go_simp; with_reducible rfl); (· simp only [Act.put, List.setIfInBounds_toArray, List.set_cons_zero, List.set_cons_succ, kw64, kw32]; rfl))
  (refine sP (v := ?_) (a' := ?_) rfl rfl (by rfl) ?_ ?_ ?_; rotate_left 2; (· intro w'; go_simp; with_reducible rfl); (· simp only [Act.put, List.setIfInBounds_toArray, List.set_cons_zero, List.set_cons_succ, kw64, kw32]; rfl))
  (refine sP (v := ?_) (a' := ?_) rfl rfl (by rfl) ?_ ?_ ?_; rotate_left 2; (· intro w'; go_simp; with_reducible rfl); (· simp only [Act.put, List.setIfInBounds_toArray, List.set_cons_zero, List.set_cons_succ, kw64, kw32]; rfl))
  (refine sP (v := ?_) (a' := ?_) rfl rfl (by rfl) ?_ ?_ ?_; rotate_left 2; (· intro w'; go_simp; with_reducible rfl); (· simp only [Act.put, List.setIfInBounds_toArray, List.set_cons_zero, List.set_cons_succ, kw64, kw32]; rfl))
  (refine sP (v := ?_) (a' := ?_) rfl rfl (by rfl) ?_ ?_ ?_; rotate_left 2; (· intro w'; go_simp; with_reducible rfl); (· simp only [Act.put, List.setIfInBounds_toArray, List.set_cons_zero, List.set_cons_succ, kw64, kw32]; rfl))
  (refine sP (v := ?_) (a' := ?_) rfl rfl (by rfl) ?_ ?_ ?_; rotate_left 2; (· intro w'; go_simp; with_reducible rfl); (· simp only [Act.put, List.setIfInBounds_toArray, List.set_cons_zero, List.set_cons_succ, kw64, kw32]; rfl))
  (refine sP (v := ?_) (a' := ?_) rfl rfl (by rfl) ?_ ?_ ?_; rotate_left 2; (· intro w'; go_simp; with_reducible rfl); (· simp only [Act.put, List.setIfInBounds_toArray, List.set_cons_zero, List.set_cons_succ, kw64, kw32]; rfl))
  (refine sP (v := ?_) (a' := ?_) rfl rfl (by rfl) ?_ ?_ ?_; rotate_left 2; (· intro w'; go_simp; with_reducible rfl); (· simp only [Act.put, List.setIfInBounds_toArray, List.set_cons_zero, List.set_cons_succ, kw64, kw32]; rfl))
  (refine sP (v := ?_) (a' := ?_) rfl rfl (by rfl) ?_ ?_ ?_; rotate_left 2; (· intro w'; go_simp; with_reducible rfl); (· simp only [Act.put, List.setIfInBounds_toArray, List.set_cons_zero, List.set_cons_succ, kw64, kw32]; rfl))
  (refine sP (v := ?_) (a' := ?_) rfl rfl (by rfl) ?_ ?_ ?_; rotate_left 2; (· intro w'; go_simp; with_reducible rfl); (· simp only [Act.put, List.setIfInBounds_toArray, List.set_cons_zero, List.set_cons_succ, kw64, kw32]; rfl))
  (refine sP (v := ?_) (a' := ?_) rfl rfl (by rfl) ?_ ?_ ?_; rotate_left 2; (· intro w'; go_simp; with_reducible rfl); (· simp only [Act.put, List.setIfInBounds_toArray, List.set_cons_zero, List.set_cons_succ, kw64, kw32]; rfl))
  (refine sP (v := ?_) (a' := ?_) rfl rfl (by rfl) ?_ ?_ ?_; rotate_left 2; (· intro w'; go_simp; with_reducible rfl); (· simp only [Act.put, List.setIfInBounds_toArray, List.set_cons_zero, List.set_cons_succ, kw64, kw32]; rfl))
  (refine sL (v := ?_) (a' := ?_) rfl rfl (by rfl) ?_ ?_ ?_; rotate_left 2; (· intro w1 hg; have c1 := (HR1.out.up hg).cell ha1; have c2 := (HR2.out.up hg).cell ha2; go_simp; with_reducible rfl); (· simp only [Act.put, List.setIfInBounds_toArray, List.set_cons_zero, List.set_cons_succ, kw64, kw32]; rfl))
  (refine sP (v := ?_) (a' := ?_) rfl rfl (by rfl) ?_ ?_ ?_; rotate_left 2; (· intro w'; go_simp; with_reducible rfl); (· simp only [Act.put, List.setIfInBounds_toArray, List.set_cons_zero, List.set_cons_succ, kw64, kw32]; rfl))
  (refine sL (v := ?_) (a' := ?_) rfl rfl (by rfl) ?_ ?_ ?_; rotate_left 2; (· intro w1 hg; have c1 := (HR1.out.up hg).cell ha1; have c2 := (HR2.out.up hg).cell ha2; go_simp; with_reducible rfl); (· simp only [Act.put, List.setIfInBounds_toArray, List.set_cons_zero, List.set_cons_succ, kw64, kw32]; rfl))
  (refine sP (v := ?_) (a' := ?_) rfl rfl (by rfl) ?_ ?_ ?_; rotate_left 2; (· intro w'; go_simp; with_reducible rfl); (· simp only [Act.put, List.setIfInBounds_toArray, List.set_cons_zero, List.set_cons_succ, kw64, kw32]; rfl))
  (refine sP (v := ?_) (a' := ?_) rfl rfl (by rfl) ?_ ?_ ?_; rotate_left 2; (· intro w'; go_simp; with_reducible rfl); (· simp only [Act.put, List.setIfInBounds_toArray, List.set_cons_zero, List.set_cons_succ, kw64, kw32]; rfl))
  refine bone (i := 17) (N := none) #[true, true, true, true, true, true, true, true, true, true, true, true, true, true, true, true, true, true, false, false] rfl rfl (by kernel_rfl) HBS (fun w1 hg K hK => ?_)
  rw [if_pos (by rfl)]
  have HRa := HR1.out.up hg
  have c0 := HRa.cell ha1
  have f0 := HRa.frozen (j := i) hj1
  go_simp
  refine hK _ _ (in_ds (by decide) (bel_set Hge1.out)) (fun HBS => ?_)
  have HRb := Aside0.mk (HRa.set i (a1 ^^^ bb) hj1)
  rw [← HL1.out] at HRb
  have HRc := Aside0.mk ((HR2.out.up hg).far hne i (.int .u8 ((a1 ^^^ bb : Nat) : Int)))
  have HB2 := Aside0.mk (below_set (j := i) (v := .int .u8 ((a1 ^^^ bb : Nat) : Int)) (HB.out.trans (Below.mono hg HB.out.size)) Hge1.out)
  clear c0 f0 hK K hg HRa HB HR1 HR2
  revert HRb HRc HB2 HBS
  generalize World.setCell w1 _ _ = wb
  intro HBS HR1 HR2 HB
  refine bseq (m := 1) (.inl rfl) [(18, true, some 122)] #[true, true, true, true, true, true, true, true, true, true, true, true, true, true, true, true, true, true, true, false] HBS (by kernel_rfl) rfl (fun _ _ _ _ _ h => h) ?_
  (refine sP (v := ?_) (a' := ?_) rfl rfl (by rfl) ?_ ?_ ?_; rotate_left 2; (· intro w'; go_simp; with_reducible rfl); (· simp only [Act.put, List.setIfInBounds_toArray, List.set_cons_zero, List.set_cons_succ, kw64, kw32]; rfl))
  refine bone (i := 19) (N := none) #[true, true, true, true, true, true, true, true, true, true, true, true, true, true, true, true, true, true, true, true] rfl rfl (by kernel_rfl) HBS (fun w1 hg K hK => ?_)
  rw [if_pos (by rfl)]
  have HRa := HR2.out.up hg
  have c0 := HRa.cell ha2
  have f0 := HRa.frozen (j := i) hj2
  go_simp
  refine hK _ _ (in_ds (by decide) (bel_set Hge2.out)) (fun HBS => ?_)
  have HRb := Aside0.mk (HRa.set i (a2 ^^^ bb) hj2)
  rw [← HL2.out] at HRb
  have HRc := Aside0.mk ((HR1.out.up hg).far hne2 i (.int .u8 ((a2 ^^^ bb : Nat) : Int)))
  have HB2 := Aside0.mk (below_set (j := i) (v := .int .u8 ((a2 ^^^ bb : Nat) : Int)) (HB.out.trans (Below.mono hg HB.out.size)) Hge2.out)
  clear c0 f0 hK K hg HRa HB HR1 HR2
  revert HRb HRc HB2 HBS
  generalize World.setCell w1 _ _ = wb
  intro HBS HR2 HR1 HB
  refine bdone (by kernel_rfl) (fun w1 hg => ?_)
  replace HR1 := Aside0.mk (HR1.out.up hg)
  replace HR2 := Aside0.mk (HR2.out.up hg)
  replace HB := Aside0.mk (HB.out.trans (Below.mono hg HB.out.size))
  clear hg
  have hcv1 := HR1.out.conv (by omega) cp1
  rw [hl1n] at hcv1
  go_wp2_with fail
  clear hcv1
  refine (HAg.out _ HB.out).mono ?_
  rintro e w7 ⟨rfl, hb⟩
  replace HR2 := Aside0.mk (HR2.out.up hb)
  replace HB := Aside0.mk (HB.out.trans (Below.mono hb HB.out.size))
  clear hb HR1
  go_wp2_with fail
  refine (HO2.out _ HB.out).mono ?_
  rintro e w8 ⟨rfl, hb⟩
  replace HR2 := Aside0.mk (HR2.out.up hb)
  replace HB := Aside0.mk (HB.out.trans (Below.mono hb HB.out.size))
  clear hb
  have hcv2 := HR2.out.conv (by omega) cp2
  rw [hl2n] at hcv2
  go_wp2
  go_ret
  exact ⟨rfl, HB.out⟩
theorem LockProves_walk (k0 head0 text0 : ByteArray) (at0 by0 : Int) (W : World) (hK : KeysAt W) :
    Calls Tryd.prog 5 #[.string k0, .string head0, .string text0, .int .i64 at0, .int .u8 by0] W fun e W' => e = .returned (.bool true) ∧ Below W.heap.size W W' := by
  cases h2 : mayL (headB k0 40) (cutF head0 60) ((cutF text0 100).size : Int)
  · exact LockProves_m k0 head0 text0 at0 by0 W h2 hK
  · by_cases hz : (cutF text0 100).size = 0
    · exact LockProves_z k0 head0 text0 at0 by0 W h2 hz hK
    · exact LockProves_p k0 head0 text0 at0 by0 W h2 (Nat.pos_of_ne_zero hz) hK
end Go.Proofs.YtpbaolijacimjaaDoor

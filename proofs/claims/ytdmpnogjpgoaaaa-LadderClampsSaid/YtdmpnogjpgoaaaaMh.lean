import Derived.Test.YtdmpnogjpgoaaaaMg
import Derived.Test.YtdmpnogjpgoaaaaMf
set_option linter.unusedSimpArgs false
namespace Go.Proofs.Ytdmpnogjpgoaaaa
open Go.RowKit Go.Proofs.YtdmpnogjpgoaaaaW.PrintWords Go.Proofs.YtdmpnogjpgoaaaaW.PrintLast Go.Proofs.YtdmpnogjpgoaaaaW.PrintMore
theorem and7 (n : Nat) (h : n < 256) : Go.bits .and .u8 (n : Int) 7 = ((n % 8 : Nat) : Int) := by
  have : ∀ n : Fin 256, Go.bits .and .u8 (n.val : Int) 7 = ((n.val % 8 : Nat) : Int) := by decide +kernel
  exact this ⟨n, h⟩
theorem and192 (n : Nat) (h : n < 256) : Go.bits .and .u8 (n : Int) 192 = ((n / 64 * 64 : Nat) : Int) := by
  have : ∀ n : Fin 256, Go.bits .and .u8 (n.val : Int) 192 = ((n.val / 64 * 64 : Nat) : Int) := by decide +kernel
  exact this ⟨n, h⟩
theorem convB1 (n b c : Nat) (W : World) (h : W.heap[b]? = some (.cells #[.int .u8 (n : Nat)] 5 (0, 0))) : (convert 63 9 (.slice (some ⟨b, 0, none⟩) 1 c)).run Try.prog W = .ok (.string (strOfNums (I [n]))) W := convB [n] (show 1 ≤ 1000 by decide) b c W h
def flip (n : Nat) : Nat := (n + 128) % 256
theorem xor128 (n : Nat) (h : n < 256) : Go.bits .xor .u8 (n : Int) 128 = ((flip n : Nat) : Int) := by
  have : ∀ n : Fin 256, Go.bits .xor .u8 (n.val : Int) 128 = ((flip n.val : Nat) : Int) := by decide +kernel
  exact this ⟨n, h⟩
theorem at_bytes (s : ByteArray) (i : Nat) (h : i < s.size) : (s[i]'h).toNat = (bytesOf s).getD i 0 := by
  unfold bytesOf
  rw [List.getD_eq_getElem?_getD, List.getElem?_map, Array.getElem?_toList, show s.data[i]? = some (s[i]'h) from Array.getElem?_eq_getElem h]
  rfl
theorem bytesOf_extract (s : ByteArray) (i j : Nat) : bytesOf (s.extract i j) = (bytesOf s).extract i j := by
  unfold bytesOf
  rw [ByteArray.data_extract, Array.toList_extract]
  simp
theorem bytesOf_append (s t : ByteArray) : bytesOf (s ++ t) = bytesOf s ++ bytesOf t := by
  unfold bytesOf
  rw [ByteArray.data_append, Array.toList_append, List.map_append]
theorem clamp_mid (x : ByteArray) (hx : x.size = 32) : (clampS x).extract 1 31 = x.extract 1 31 := by
  have hl : (bytesOf x).length = 32 := by rw [bytesOf_len, hx]
  refine bytesOf_inj ?_
  rw [bytesOf_extract, bytesOf_extract, bytesOf_clampS]
  unfold clampL
  generalize (bytesOf x).getD 0 0 / 8 * 8 = p
  generalize (bytesOf x).getD 31 0 % 64 + 64 = q
  refine List.ext_getElem? fun i => ?_
  simp only [List.extract_eq_take_drop, List.getElem?_take, List.getElem?_drop, List.getElem?_set, List.length_set, hl]
  split
  · rw [if_neg (by omega), if_neg (by omega)]
  · rfl
theorem clamp_b0 (x : ByteArray) (hx : x.size = 32) (h : 0 < (clampS x).size) : Go.bits .and .u8 ((((clampS x)[0]'h).toNat : Nat) : Int) 7 = 0 := by
  have hl : (bytesOf x).length = 32 := by rw [bytesOf_len, hx]
  rw [and7 _ ((clampS x)[0]'h).toNat_lt, at_bytes, bytesOf_clampS, clampL_0 _ hl]
  omega
theorem clamp_b31 (x : ByteArray) (hx : x.size = 32) (h : 31 < (clampS x).size) : Go.bits .and .u8 ((((clampS x)[31]'h).toNat : Nat) : Int) 192 = 64 := by
  have hl : (bytesOf x).length = 32 := by rw [bytesOf_len, hx]
  rw [and192 _ ((clampS x)[31]'h).toNat_lt, at_bytes, bytesOf_clampS, clampL_31 _ hl]
  omega
/-- the highest bit turned -/
def turned (y : ByteArray) : ByteArray := y.extract 0 31 ++ strOfNums (I [flip ((bytesOf y).getD 31 0)])
theorem flip_lt (n : Nat) : flip n < 256 := Nat.mod_lt _ (by decide)
theorem bytesOf_turned (y : ByteArray) : bytesOf (turned y) = (bytesOf y).take 31 ++ [flip ((bytesOf y).getD 31 0)] := by
  unfold turned
  rw [bytesOf_append, bytesOf_extract, bytesOf_str _ (by intro d hd; rw [List.mem_singleton.1 hd]; exact flip_lt _)]
  simp [List.extract_eq_take_drop]
theorem turned_size (y : ByteArray) (hy : y.size = 32) : (turned y).size = 32 := by
  rw [← bytesOf_len, bytesOf_turned, List.length_append, List.length_take, bytesOf_len, hy]
  rfl
theorem list_last {l : List Nat} (h : l.length = 32) : l = l.take 31 ++ [l.getD 31 0] := by
  refine (List.take_append_drop 31 l).symm.trans (congrArg _ ?_)
  rw [List.drop_eq_getElem_cons (by omega), List.drop_of_length_le (by omega), List.getD_eq_getElem?_getD, List.getElem?_eq_getElem (by omega)]
  rfl
theorem topL_snoc (l : List Nat) (n : Nat) (h : l.length = 31) : topL (l ++ [n]) = l ++ [n % 128] := by
  unfold topL
  rw [List.getD_eq_getElem?_getD, List.getElem?_append_right (by omega), List.set_append_right _ _ (by omega), h]
  rfl
theorem flip_mod (n : Nat) (_ : n < 256) : flip n % 128 = n % 128 := by unfold flip; omega
theorem topS_turned (y : ByteArray) (hy : y.size = 32) : topS (turned y) = topS y := by
  have hl : (bytesOf y).length = 32 := by rw [bytesOf_len, hy]
  have ht : ((bytesOf y).take 31).length = 31 := by rw [List.length_take, hl]; rfl
  refine bytesOf_inj ?_
  have h2 : topL (bytesOf y) = (bytesOf y).take 31 ++ [(bytesOf y).getD 31 0 % 128] := by
    conv => lhs; rw [list_last hl]
    exact topL_snoc _ _ ht
  rw [bytesOf_topS, bytesOf_topS, bytesOf_turned, topL_snoc _ _ ht, flip_mod _ (getD_lt256 (bytesOf_lt y) 31), h2]
theorem multS_turned (x y : ByteArray) (hx : x.size = 32) (hy : y.size = 32) : multS (clampS x) (turned y) = multS x y := by
  unfold multS multF uPt
  rw [clamp_twice x hx, topS_turned y hy]
attribute [local irreducible] Calls
set_option maxHeartbeats 4000000 in
set_option maxRecDepth 100000 in
theorem LadderClamps_walk (a b : ByteArray) (W : World) : Calls Try.prog 8 #[.string a, .string b] W fun e W' => e = .returned (.bool true) ∧ Below W.heap.size W W' := by
  by_cases hx : (cutN a 34).size = 32 <;> by_cases hy : (cutN b 34).size = 32
  · skip
    go_enter Try.func8, Try.ntmps8
    go_wp2_with fail
    refine (cut02 a _).mono ?_
    rintro e w1 ⟨rfl, hb⟩
    have HB := Aside0.mk hb
    clear hb
    go_wp2_with fail
    refine (cut02 b _).mono ?_
    rintro e w1 ⟨rfl, hb⟩
    replace HB := Aside0.mk (below_step HB.out hb)
    clear hb
    generalize cutN a 34 = x at *
    generalize cutN b 34 = y at *
    have tx := sz2_nf hx
    have ty := sz2_nf hy
    have HX := Aside0.mk hx
    have HY := Aside0.mk hy
    clear hx hy
    go_wp2_with fail
    refine (Clamp_any x HX.out _).mono ?_
    rintro e w1 ⟨rfl, hb⟩
    replace HB := Aside0.mk (below_step HB.out hb)
    clear hb
    go_wp2_with fail
    refine (Mult_any x y HX.out HY.out _).mono ?_
    rintro e w1 ⟨rfl, hb⟩
    replace HB := Aside0.mk (below_step HB.out hb)
    clear hb
    have HC := Aside0.mk (clampS_size x HX.out)
    have HCC := Lib.hid (Clamp_any (clampS x) HC.out)
    rw [clamp_twice x HX.out] at HCC
    have hmid := clamp_mid x HX.out
    have b0 := clamp_b0 x HX.out (by rw [HC.out]; decide)
    have b31 := clamp_b31 x HX.out (by rw [HC.out]; decide)
    have HT := Lib.hid (Mult_any (clampS x) (turned y) HC.out (turned_size y HY.out))
    rw [multS_turned x y HX.out HY.out] at HT
    have hnf := sz2_nf HC.out
    have hsc := HC.out
    have hy31 := at_bytes y 31 (by rw [HY.out]; decide)
    have hyl := getD_lt256 (bytesOf_lt y) 31
    have hxor := xor128 _ hyl
    have htu : y.extract 0 31 ++ strOfNums (I [flip ((bytesOf y).getD 31 0)]) = turned y := rfl
    generalize turned y = y' at *
    generalize (bytesOf y).getD 31 0 = n at *
    generalize flip n = n' at *
    have hs1 : (strOfNums (I [n'])).size = 1 := strOfNums_size _
    generalize multS x y = m at *
    generalize clampS x = c at *
    have hsy := HY.out
    have hsx := HX.out
    go_wp2_with fail
    refine (HCC.out _).mono ?_
    rintro e w1 ⟨rfl, hb⟩
    replace HB := Aside0.mk (below_step HB.out hb)
    clear hb
    go_wp2_with fail
    have HO := Own.start w1
    refine kstart (n := 15) (ds := []) #[false, false, false, false, false, false, false, false, false, false, false, false, false, false, false] (by kernel_rfl) rfl rfl ?_
    refine kpure (i := 0) (N := (some 59)) (v := ?_) (a' := ?_) #[true, false, false, false, false, false, false, false, false, false, false, false, false, false, false] rfl rfl (by kernel_rfl) (fun _ _ _ h => h) (Or.inl ⟨by rfl, ?_⟩) ?_ ?_  -- 0 move (tmp 5)
    rotate_left
    · intro w'; go_simp; with_reducible rfl
    rotate_left
    · simp only [Act.put, List.setIfInBounds_toArray, List.set_cons_zero, List.set_cons_succ, i64_w, i32_w]; rfl
    refine kpure (i := 1) (N := (some 60)) (v := ?_) (a' := ?_) #[true, true, false, false, false, false, false, false, false, false, false, false, false, false, false] rfl rfl (by kernel_rfl) (fun _ _ _ h => h) (Or.inl ⟨by rfl, ?_⟩) ?_ ?_  -- 1 move (tmp 1)
    rotate_left
    · intro w'; go_simp; with_reducible rfl
    rotate_left
    · simp only [Act.put, List.setIfInBounds_toArray, List.set_cons_zero, List.set_cons_succ, i64_w, i32_w]; rfl
    refine kpure (i := 2) (N := (some 61)) (v := ?_) (a' := ?_) #[true, true, true, false, false, false, false, false, false, false, false, false, false, false, false] rfl rfl (by kernel_rfl) (fun _ _ _ h => h) (Or.inl ⟨by rfl, ?_⟩) ?_ ?_  -- 2 slice 9 (tmp 60) none (some (const (int i64 31))) none
    rotate_left
    · intro w'; go_simp; with_reducible rfl
    rotate_left
    · simp only [Act.put, List.setIfInBounds_toArray, List.set_cons_zero, List.set_cons_succ, i64_w, i32_w]; rfl
    refine kpure (i := 3) (N := (some 62)) (v := ?_) (a' := ?_) #[true, true, true, true, false, false, false, false, false, false, false, false, false, false, false] rfl rfl (by kernel_rfl) (fun _ _ _ h => h) (Or.inl ⟨by rfl, ?_⟩) ?_ ?_  -- 3 move (tmp 1)
    rotate_left
    · intro w'; go_simp; with_reducible rfl
    rotate_left
    · simp only [Act.put, List.setIfInBounds_toArray, List.set_cons_zero, List.set_cons_succ, i64_w, i32_w]; rfl
    refine kpure (i := 4) (N := (some 63)) (v := ?_) (a' := ?_) #[true, true, true, true, true, false, false, false, false, false, false, false, false, false, false] rfl rfl (by kernel_rfl) (fun _ _ _ h => h) (Or.inl ⟨by rfl, ?_⟩) ?_ ?_  -- 4 index 9 (tmp 62) (const (int i64 31))
    rotate_left
    · intro w'; go_simp; with_reducible rfl
    rotate_left
    · simp only [Act.put, List.setIfInBounds_toArray, List.set_cons_zero, List.set_cons_succ, i64_w, i32_w]; rfl
    refine kpure (i := 5) (N := (some 64)) (v := ?_) (a' := ?_) #[true, true, true, true, true, true, false, false, false, false, false, false, false, false, false] rfl rfl (by kernel_rfl) (fun _ _ _ h => h) (Or.inl ⟨by rfl, ?_⟩) ?_ ?_  -- 5 binOp Binxor 5 (tmp 63) (const (int u8 128)) 5
    rotate_left
    · intro w'; go_simp; with_reducible rfl
    rotate_left
    · simp only [Act.put, List.setIfInBounds_toArray, List.set_cons_zero, List.set_cons_succ, i64_w, i32_w]; rfl
    refine kone (i := 6) (N := (some 65)) #[true, true, true, true, true, true, true, false, false, false, false, false, false, false, false] rfl rfl (by kernel_rfl) (fun w1 hg K hK => ?_)  -- 6 buildSlice 63 1 #[(0, tmp 64)]
    rw [if_pos (by rfl)]
    replace HO := HO.up hg
    replace hK := Shut.mk hK
    go_simp
    refine hK.out _ _ (fun _ => below_alloc (Below.refl _ _) _) ?_
    replace HO := HO.alloc (.cells #[.int .u8 (n' : Nat)] 5)
    clear hg K hK
    generalize hwa : w1.alloc _ = wa at *
    generalize hga : w1.heap.size = g6 at *
    clear hwa hga
    refine ktake (i := 7) (N := (some 66)) (v := ?_) (a' := ?_) #[true, true, true, true, true, true, true, true, false, false, false, false, false, false, false] rfl rfl (by kernel_rfl) (fun _ _ _ h => h) (Or.inl ⟨by rfl, fun w1 hg => ?_⟩) ?_ ?_  -- 7 convert 63 9 (tmp 65)
    rotate_left
    · refine RunG_value ?_; have hcv := convB1 n' g6 1 w1 ((HO.up hg).blk 0 rfl); go_simp; with_reducible rfl
    rotate_left
    · simp only [Act.put, List.setIfInBounds_toArray, List.set_cons_zero, List.set_cons_succ, i64_w, i32_w]; rfl
    refine kpure (i := 8) (N := (some 67)) (v := ?_) (a' := ?_) #[true, true, true, true, true, true, true, true, true, false, false, false, false, false, false] rfl rfl (by kernel_rfl) (fun _ _ _ h => h) (Or.inl ⟨by rfl, ?_⟩) ?_ ?_  -- 8 binOp Binadd 9 (tmp 61) (tmp 66) 9
    rotate_left
    · intro w'; go_simp; with_reducible rfl
    rotate_left
    · simp only [Act.put, List.setIfInBounds_toArray, List.set_cons_zero, List.set_cons_succ, i64_w, i32_w]; rfl
    refine ktake (i := 9) (N := (some 68)) (v := .tuple #[.string m, .int .i64 0]) (a' := ?_) #[true, true, true, true, true, true, true, true, true, true, false, false, false, false, false] rfl rfl (by kernel_rfl) (fun _ _ _ h => h) (Or.inl ⟨by rfl, fun w1 hg => RunG_call Try.func48 (by kernel_rfl) rfl [.string c, .string y'] rfl (by rfl) (HT.out _)⟩) ?_ ?_  -- 9 call { callee := value (func 48), args := #[tmp 59, tmp 67], argTypes := #[9, 9] }
    rotate_left
    · simp only [Act.put, List.setIfInBounds_toArray, List.set_cons_zero, List.set_cons_succ, i64_w, i32_w]; rfl
    refine kpure (i := 10) (N := (some 58)) (v := ?_) (a' := ?_) #[true, true, true, true, true, true, true, true, true, true, true, false, false, false, false] rfl rfl (by kernel_rfl) (fun _ _ _ h => h) (Or.inl ⟨by rfl, ?_⟩) ?_ ?_  -- 10 move (tmp 68)
    rotate_left
    · intro w'; go_simp; with_reducible rfl
    rotate_left
    · simp only [Act.put, List.setIfInBounds_toArray, List.set_cons_zero, List.set_cons_succ, i64_w, i32_w]; rfl
    refine kpure (i := 11) (N := (some 69)) (v := ?_) (a' := ?_) #[true, true, true, true, true, true, true, true, true, true, true, true, false, false, false] rfl rfl (by kernel_rfl) (fun _ _ _ h => h) (Or.inl ⟨by rfl, ?_⟩) ?_ ?_  -- 11 extract (tmp 58) 0
    rotate_left
    · intro w'; go_simp; with_reducible rfl
    rotate_left
    · simp only [Act.put, List.setIfInBounds_toArray, List.set_cons_zero, List.set_cons_succ, i64_w, i32_w]; rfl
    refine kpure (i := 12) (N := (some 70)) (v := ?_) (a' := ?_) #[true, true, true, true, true, true, true, true, true, true, true, true, true, false, false] rfl rfl (by kernel_rfl) (fun _ _ _ h => h) (Or.inl ⟨by rfl, ?_⟩) ?_ ?_  -- 12 extract (tmp 58) 1
    rotate_left
    · intro w'; go_simp; with_reducible rfl
    rotate_left
    · simp only [Act.put, List.setIfInBounds_toArray, List.set_cons_zero, List.set_cons_succ, i64_w, i32_w]; rfl
    refine kpure (i := 13) (N := (some 11)) (v := ?_) (a' := ?_) #[true, true, true, true, true, true, true, true, true, true, true, true, true, true, false] rfl rfl (by kernel_rfl) (fun _ _ _ h => h) (Or.inl ⟨by rfl, ?_⟩) ?_ ?_  -- 13 assign (tmp 69)
    rotate_left
    · intro w'; go_simp; with_reducible rfl
    rotate_left
    · simp only [Act.put, List.setIfInBounds_toArray, List.set_cons_zero, List.set_cons_succ, i64_w, i32_w]; rfl
    refine kpure (i := 14) (N := (some 12)) (v := ?_) (a' := ?_) #[true, true, true, true, true, true, true, true, true, true, true, true, true, true, true] rfl rfl (by kernel_rfl) (fun _ _ _ h => h) (Or.inl ⟨by rfl, ?_⟩) ?_ ?_  -- 14 assign (tmp 70)
    rotate_left
    · intro w'; go_simp; with_reducible rfl
    rotate_left
    · simp only [Act.put, List.setIfInBounds_toArray, List.set_cons_zero, List.set_cons_succ, i64_w, i32_w]; rfl
    refine kdone (by kernel_rfl) (fun w1 hg => ?_)
    replace HB := Aside0.mk (below_step HB.out (HO.up hg).below)
    clear HO hg
    go_wp2_with fail
    refine kstart (n := 39) (ds := []) #[false, false, false, false, false, false, false, false, false, false, false, false, false, false, false, false, false, false, false, false, false, false, false, false, false, false, false, false, false, false, false, false, false, false, false, false, false, false, false] (by kernel_rfl) rfl rfl ?_
    refine ktake (i := 0) (N := (some 71)) (v := .bool true) (a' := ?_) #[true, false, false, false, false, false, false, false, false, false, false, false, false, false, false, false, false, false, false, false, false, false, false, false, false, false, false, false, false, false, false, false, false, false, false, false, false, false, false] rfl rfl (by kernel_rfl) (fun _ _ _ h => h) (Or.inl ⟨by rfl, fun w1 hg => RunG_call Try.func49 (by kernel_rfl) rfl [] rfl (by rfl) (alive02 _)⟩) ?_ ?_  -- 0 call { callee := value (func 49), args := #[], argTypes := #[] }
    rotate_left
    · simp only [Act.put, List.setIfInBounds_toArray, List.set_cons_zero, List.set_cons_succ, i64_w, i32_w]; rfl
    refine kpure (i := 1) (N := (some 72)) (v := ?_) (a' := ?_) #[true, true, false, false, false, false, false, false, false, false, false, false, false, false, false, false, false, false, false, false, false, false, false, false, false, false, false, false, false, false, false, false, false, false, false, false, false, false, false] rfl rfl (by kernel_rfl) (fun _ _ _ h => h) (Or.inl ⟨by rfl, ?_⟩) ?_ ?_  -- 1 move (tmp 71)
    rotate_left
    · intro w'; go_simp; with_reducible rfl
    rotate_left
    · simp only [Act.put, List.setIfInBounds_toArray, List.set_cons_zero, List.set_cons_succ, i64_w, i32_w]; rfl
    refine kpure (i := 2) (N := (some 73)) (v := ?_) (a' := ?_) #[true, true, true, false, false, false, false, false, false, false, false, false, false, false, false, false, false, false, false, false, false, false, false, false, false, false, false, false, false, false, false, false, false, false, false, false, false, false, false] rfl rfl (by kernel_rfl) (fun _ _ _ h => h) (Or.inl ⟨by rfl, ?_⟩) ?_ ?_  -- 2 move (tmp 10)
    rotate_left
    · intro w'; go_simp; with_reducible rfl
    rotate_left
    · simp only [Act.put, List.setIfInBounds_toArray, List.set_cons_zero, List.set_cons_succ, i64_w, i32_w]; rfl
    refine kpure (i := 3) (N := (some 74)) (v := ?_) (a' := ?_) #[true, true, true, true, false, false, false, false, false, false, false, false, false, false, false, false, false, false, false, false, false, false, false, false, false, false, false, false, false, false, false, false, false, false, false, false, false, false, false] rfl rfl (by kernel_rfl) (fun _ _ _ h => h) (Or.inl ⟨by rfl, ?_⟩) ?_ ?_  -- 3 binOp Bineql 23 (tmp 73) (const (int i64 0)) 23
    rotate_left
    · intro w'; go_simp; with_reducible rfl
    rotate_left
    · simp only [Act.put, List.setIfInBounds_toArray, List.set_cons_zero, List.set_cons_succ, i64_w, i32_w]; rfl
    refine kpure (i := 4) (N := (some 75)) (v := ?_) (a' := ?_) #[true, true, true, true, true, false, false, false, false, false, false, false, false, false, false, false, false, false, false, false, false, false, false, false, false, false, false, false, false, false, false, false, false, false, false, false, false, false, false] rfl rfl (by kernel_rfl) (fun _ _ _ h => h) (Or.inl ⟨by rfl, ?_⟩) ?_ ?_  -- 4 pick (tmp 72) (tmp 74) (const (bool false))
    rotate_left
    · intro w'; go_simp; with_reducible rfl
    rotate_left
    · simp only [Act.put, List.setIfInBounds_toArray, List.set_cons_zero, List.set_cons_succ, i64_w, i32_w]; rfl
    refine kpure (i := 5) (N := (some 76)) (v := ?_) (a' := ?_) #[true, true, true, true, true, true, false, false, false, false, false, false, false, false, false, false, false, false, false, false, false, false, false, false, false, false, false, false, false, false, false, false, false, false, false, false, false, false, false] rfl rfl (by kernel_rfl) (fun _ _ _ h => h) (Or.inl ⟨by rfl, ?_⟩) ?_ ?_  -- 5 move (tmp 75)
    rotate_left
    · intro w'; go_simp; with_reducible rfl
    rotate_left
    · simp only [Act.put, List.setIfInBounds_toArray, List.set_cons_zero, List.set_cons_succ, i64_w, i32_w]; rfl
    refine kpure (i := 6) (N := (some 77)) (v := ?_) (a' := ?_) #[true, true, true, true, true, true, true, false, false, false, false, false, false, false, false, false, false, false, false, false, false, false, false, false, false, false, false, false, false, false, false, false, false, false, false, false, false, false, false] rfl rfl (by kernel_rfl) (fun _ _ _ h => h) (Or.inl ⟨by rfl, ?_⟩) ?_ ?_  -- 6 move (tmp 12)
    rotate_left
    · intro w'; go_simp; with_reducible rfl
    rotate_left
    · simp only [Act.put, List.setIfInBounds_toArray, List.set_cons_zero, List.set_cons_succ, i64_w, i32_w]; rfl
    refine kpure (i := 7) (N := (some 78)) (v := ?_) (a' := ?_) #[true, true, true, true, true, true, true, true, false, false, false, false, false, false, false, false, false, false, false, false, false, false, false, false, false, false, false, false, false, false, false, false, false, false, false, false, false, false, false] rfl rfl (by kernel_rfl) (fun _ _ _ h => h) (Or.inl ⟨by rfl, ?_⟩) ?_ ?_  -- 7 binOp Bineql 23 (tmp 77) (const (int i64 0)) 23
    rotate_left
    · intro w'; go_simp; with_reducible rfl
    rotate_left
    · simp only [Act.put, List.setIfInBounds_toArray, List.set_cons_zero, List.set_cons_succ, i64_w, i32_w]; rfl
    refine kpure (i := 8) (N := (some 79)) (v := ?_) (a' := ?_) #[true, true, true, true, true, true, true, true, true, false, false, false, false, false, false, false, false, false, false, false, false, false, false, false, false, false, false, false, false, false, false, false, false, false, false, false, false, false, false] rfl rfl (by kernel_rfl) (fun _ _ _ h => h) (Or.inl ⟨by rfl, ?_⟩) ?_ ?_  -- 8 pick (tmp 76) (tmp 78) (const (bool false))
    rotate_left
    · intro w'; go_simp; with_reducible rfl
    rotate_left
    · simp only [Act.put, List.setIfInBounds_toArray, List.set_cons_zero, List.set_cons_succ, i64_w, i32_w]; rfl
    refine kpure (i := 9) (N := (some 80)) (v := ?_) (a' := ?_) #[true, true, true, true, true, true, true, true, true, true, false, false, false, false, false, false, false, false, false, false, false, false, false, false, false, false, false, false, false, false, false, false, false, false, false, false, false, false, false] rfl rfl (by kernel_rfl) (fun _ _ _ h => h) (Or.inl ⟨by rfl, ?_⟩) ?_ ?_  -- 9 move (tmp 79)
    rotate_left
    · intro w'; go_simp; with_reducible rfl
    rotate_left
    · simp only [Act.put, List.setIfInBounds_toArray, List.set_cons_zero, List.set_cons_succ, i64_w, i32_w]; rfl
    refine kpure (i := 10) (N := (some 81)) (v := ?_) (a' := ?_) #[true, true, true, true, true, true, true, true, true, true, true, false, false, false, false, false, false, false, false, false, false, false, false, false, false, false, false, false, false, false, false, false, false, false, false, false, false, false, false] rfl rfl (by kernel_rfl) (fun _ _ _ h => h) (Or.inl ⟨by rfl, ?_⟩) ?_ ?_  -- 10 move (tmp 9)
    rotate_left
    · intro w'; go_simp; with_reducible rfl
    rotate_left
    · simp only [Act.put, List.setIfInBounds_toArray, List.set_cons_zero, List.set_cons_succ, i64_w, i32_w]; rfl
    refine kpure (i := 11) (N := (some 82)) (v := ?_) (a' := ?_) #[true, true, true, true, true, true, true, true, true, true, true, true, false, false, false, false, false, false, false, false, false, false, false, false, false, false, false, false, false, false, false, false, false, false, false, false, false, false, false] rfl rfl (by kernel_rfl) (fun _ _ _ h => h) (Or.inl ⟨by rfl, ?_⟩) ?_ ?_  -- 11 move (tmp 5)
    rotate_left
    · intro w'; go_simp; with_reducible rfl
    rotate_left
    · simp only [Act.put, List.setIfInBounds_toArray, List.set_cons_zero, List.set_cons_succ, i64_w, i32_w]; rfl
    refine kpure (i := 12) (N := (some 83)) (v := ?_) (a' := ?_) #[true, true, true, true, true, true, true, true, true, true, true, true, true, false, false, false, false, false, false, false, false, false, false, false, false, false, false, false, false, false, false, false, false, false, false, false, false, false, false] rfl rfl (by kernel_rfl) (fun _ _ _ h => h) (Or.inl ⟨by rfl, ?_⟩) ?_ ?_  -- 12 binOp Bineql 9 (tmp 81) (tmp 82) 9
    rotate_left
    · intro w'; go_simp; with_reducible rfl
    rotate_left
    · simp only [Act.put, List.setIfInBounds_toArray, List.set_cons_zero, List.set_cons_succ, i64_w, i32_w]; rfl
    refine kpure (i := 13) (N := (some 84)) (v := ?_) (a' := ?_) #[true, true, true, true, true, true, true, true, true, true, true, true, true, true, false, false, false, false, false, false, false, false, false, false, false, false, false, false, false, false, false, false, false, false, false, false, false, false, false] rfl rfl (by kernel_rfl) (fun _ _ _ h => h) (Or.inl ⟨by rfl, ?_⟩) ?_ ?_  -- 13 pick (tmp 80) (tmp 83) (const (bool false))
    rotate_left
    · intro w'; go_simp; with_reducible rfl
    rotate_left
    · simp only [Act.put, List.setIfInBounds_toArray, List.set_cons_zero, List.set_cons_succ, i64_w, i32_w]; rfl
    refine kpure (i := 14) (N := (some 85)) (v := ?_) (a' := ?_) #[true, true, true, true, true, true, true, true, true, true, true, true, true, true, true, false, false, false, false, false, false, false, false, false, false, false, false, false, false, false, false, false, false, false, false, false, false, false, false] rfl rfl (by kernel_rfl) (fun _ _ _ h => h) (Or.inl ⟨by rfl, ?_⟩) ?_ ?_  -- 14 move (tmp 84)
    rotate_left
    · intro w'; go_simp; with_reducible rfl
    rotate_left
    · simp only [Act.put, List.setIfInBounds_toArray, List.set_cons_zero, List.set_cons_succ, i64_w, i32_w]; rfl
    refine kpure (i := 15) (N := (some 86)) (v := ?_) (a' := ?_) #[true, true, true, true, true, true, true, true, true, true, true, true, true, true, true, true, false, false, false, false, false, false, false, false, false, false, false, false, false, false, false, false, false, false, false, false, false, false, false] rfl rfl (by kernel_rfl) (fun _ _ _ h => h) (Or.inl ⟨by rfl, ?_⟩) ?_ ?_  -- 15 move (tmp 7)
    rotate_left
    · intro w'; go_simp; with_reducible rfl
    rotate_left
    · simp only [Act.put, List.setIfInBounds_toArray, List.set_cons_zero, List.set_cons_succ, i64_w, i32_w]; rfl
    refine kpure (i := 16) (N := (some 87)) (v := ?_) (a' := ?_) #[true, true, true, true, true, true, true, true, true, true, true, true, true, true, true, true, true, false, false, false, false, false, false, false, false, false, false, false, false, false, false, false, false, false, false, false, false, false, false] rfl rfl (by kernel_rfl) (fun _ _ _ h => h) (Or.inl ⟨by rfl, ?_⟩) ?_ ?_  -- 16 move (tmp 11)
    rotate_left
    · intro w'; go_simp; with_reducible rfl
    rotate_left
    · simp only [Act.put, List.setIfInBounds_toArray, List.set_cons_zero, List.set_cons_succ, i64_w, i32_w]; rfl
    refine kpure (i := 17) (N := (some 88)) (v := ?_) (a' := ?_) #[true, true, true, true, true, true, true, true, true, true, true, true, true, true, true, true, true, true, false, false, false, false, false, false, false, false, false, false, false, false, false, false, false, false, false, false, false, false, false] rfl rfl (by kernel_rfl) (fun _ _ _ h => h) (Or.inl ⟨by rfl, ?_⟩) ?_ ?_  -- 17 binOp Bineql 9 (tmp 86) (tmp 87) 9
    rotate_left
    · intro w'; go_simp; with_reducible rfl
    rotate_left
    · simp only [Act.put, List.setIfInBounds_toArray, List.set_cons_zero, List.set_cons_succ, i64_w, i32_w]; rfl
    refine kpure (i := 18) (N := (some 89)) (v := ?_) (a' := ?_) #[true, true, true, true, true, true, true, true, true, true, true, true, true, true, true, true, true, true, true, false, false, false, false, false, false, false, false, false, false, false, false, false, false, false, false, false, false, false, false] rfl rfl (by kernel_rfl) (fun _ _ _ h => h) (Or.inl ⟨by rfl, ?_⟩) ?_ ?_  -- 18 pick (tmp 85) (tmp 88) (const (bool false))
    rotate_left
    · intro w'; go_simp; with_reducible rfl
    rotate_left
    · simp only [Act.put, List.setIfInBounds_toArray, List.set_cons_zero, List.set_cons_succ, i64_w, i32_w]; rfl
    refine kpure (i := 19) (N := (some 90)) (v := ?_) (a' := ?_) #[true, true, true, true, true, true, true, true, true, true, true, true, true, true, true, true, true, true, true, true, false, false, false, false, false, false, false, false, false, false, false, false, false, false, false, false, false, false, false] rfl rfl (by kernel_rfl) (fun _ _ _ h => h) (Or.inl ⟨by rfl, ?_⟩) ?_ ?_  -- 19 move (tmp 89)
    rotate_left
    · intro w'; go_simp; with_reducible rfl
    rotate_left
    · simp only [Act.put, List.setIfInBounds_toArray, List.set_cons_zero, List.set_cons_succ, i64_w, i32_w]; rfl
    refine kpure (i := 20) (N := (some 91)) (v := ?_) (a' := ?_) #[true, true, true, true, true, true, true, true, true, true, true, true, true, true, true, true, true, true, true, true, true, false, false, false, false, false, false, false, false, false, false, false, false, false, false, false, false, false, false] rfl rfl (by kernel_rfl) (fun _ _ _ h => h) (Or.inl ⟨by rfl, ?_⟩) ?_ ?_  -- 20 move (tmp 5)
    rotate_left
    · intro w'; go_simp; with_reducible rfl
    rotate_left
    · simp only [Act.put, List.setIfInBounds_toArray, List.set_cons_zero, List.set_cons_succ, i64_w, i32_w]; rfl
    refine kpure (i := 21) (N := (some 92)) (v := ?_) (a' := ?_) #[true, true, true, true, true, true, true, true, true, true, true, true, true, true, true, true, true, true, true, true, true, true, false, false, false, false, false, false, false, false, false, false, false, false, false, false, false, false, false] rfl rfl (by kernel_rfl) (fun _ _ _ h => h) (Or.inl ⟨by rfl, ?_⟩) ?_ ?_  -- 21 index 9 (tmp 91) (const (int i64 0))
    rotate_left
    · intro w'; go_simp; with_reducible rfl
    rotate_left
    · simp only [Act.put, List.setIfInBounds_toArray, List.set_cons_zero, List.set_cons_succ, i64_w, i32_w]; rfl
    refine kpure (i := 22) (N := (some 93)) (v := ?_) (a' := ?_) #[true, true, true, true, true, true, true, true, true, true, true, true, true, true, true, true, true, true, true, true, true, true, true, false, false, false, false, false, false, false, false, false, false, false, false, false, false, false, false] rfl rfl (by kernel_rfl) (fun _ _ _ h => h) (Or.inl ⟨by rfl, ?_⟩) ?_ ?_  -- 22 binOp Binand 5 (tmp 92) (const (int u8 7)) 5
    rotate_left
    · intro w'; go_simp; with_reducible rfl
    rotate_left
    · simp only [Act.put, List.setIfInBounds_toArray, List.set_cons_zero, List.set_cons_succ, i64_w, i32_w]; rfl
    refine kpure (i := 23) (N := (some 94)) (v := ?_) (a' := ?_) #[true, true, true, true, true, true, true, true, true, true, true, true, true, true, true, true, true, true, true, true, true, true, true, true, false, false, false, false, false, false, false, false, false, false, false, false, false, false, false] rfl rfl (by kernel_rfl) (fun _ _ _ h => h) (Or.inl ⟨by rfl, ?_⟩) ?_ ?_  -- 23 binOp Bineql 5 (tmp 93) (const (int u8 0)) 5
    rotate_left
    · intro w'; go_simp; with_reducible rfl
    rotate_left
    · simp only [Act.put, List.setIfInBounds_toArray, List.set_cons_zero, List.set_cons_succ, i64_w, i32_w]; rfl
    refine kpure (i := 24) (N := (some 95)) (v := ?_) (a' := ?_) #[true, true, true, true, true, true, true, true, true, true, true, true, true, true, true, true, true, true, true, true, true, true, true, true, true, false, false, false, false, false, false, false, false, false, false, false, false, false, false] rfl rfl (by kernel_rfl) (fun _ _ _ h => h) (Or.inl ⟨by rfl, ?_⟩) ?_ ?_  -- 24 pick (tmp 90) (tmp 94) (const (bool false))
    rotate_left
    · intro w'; go_simp; with_reducible rfl
    rotate_left
    · simp only [Act.put, List.setIfInBounds_toArray, List.set_cons_zero, List.set_cons_succ, i64_w, i32_w]; rfl
    refine kpure (i := 25) (N := (some 96)) (v := ?_) (a' := ?_) #[true, true, true, true, true, true, true, true, true, true, true, true, true, true, true, true, true, true, true, true, true, true, true, true, true, true, false, false, false, false, false, false, false, false, false, false, false, false, false] rfl rfl (by kernel_rfl) (fun _ _ _ h => h) (Or.inl ⟨by rfl, ?_⟩) ?_ ?_  -- 25 move (tmp 95)
    rotate_left
    · intro w'; go_simp; with_reducible rfl
    rotate_left
    · simp only [Act.put, List.setIfInBounds_toArray, List.set_cons_zero, List.set_cons_succ, i64_w, i32_w]; rfl
    refine kpure (i := 26) (N := (some 97)) (v := ?_) (a' := ?_) #[true, true, true, true, true, true, true, true, true, true, true, true, true, true, true, true, true, true, true, true, true, true, true, true, true, true, true, false, false, false, false, false, false, false, false, false, false, false, false] rfl rfl (by kernel_rfl) (fun _ _ _ h => h) (Or.inl ⟨by rfl, ?_⟩) ?_ ?_  -- 26 move (tmp 5)
    rotate_left
    · intro w'; go_simp; with_reducible rfl
    rotate_left
    · simp only [Act.put, List.setIfInBounds_toArray, List.set_cons_zero, List.set_cons_succ, i64_w, i32_w]; rfl
    refine kpure (i := 27) (N := (some 98)) (v := ?_) (a' := ?_) #[true, true, true, true, true, true, true, true, true, true, true, true, true, true, true, true, true, true, true, true, true, true, true, true, true, true, true, true, false, false, false, false, false, false, false, false, false, false, false] rfl rfl (by kernel_rfl) (fun _ _ _ h => h) (Or.inl ⟨by rfl, ?_⟩) ?_ ?_  -- 27 index 9 (tmp 97) (const (int i64 31))
    rotate_left
    · intro w'; go_simp; with_reducible rfl
    rotate_left
    · simp only [Act.put, List.setIfInBounds_toArray, List.set_cons_zero, List.set_cons_succ, i64_w, i32_w]; rfl
    refine kpure (i := 28) (N := (some 99)) (v := ?_) (a' := ?_) #[true, true, true, true, true, true, true, true, true, true, true, true, true, true, true, true, true, true, true, true, true, true, true, true, true, true, true, true, true, false, false, false, false, false, false, false, false, false, false] rfl rfl (by kernel_rfl) (fun _ _ _ h => h) (Or.inl ⟨by rfl, ?_⟩) ?_ ?_  -- 28 binOp Binand 5 (tmp 98) (const (int u8 192)) 5
    rotate_left
    · intro w'; go_simp; with_reducible rfl
    rotate_left
    · simp only [Act.put, List.setIfInBounds_toArray, List.set_cons_zero, List.set_cons_succ, i64_w, i32_w]; rfl
    refine kpure (i := 29) (N := (some 100)) (v := ?_) (a' := ?_) #[true, true, true, true, true, true, true, true, true, true, true, true, true, true, true, true, true, true, true, true, true, true, true, true, true, true, true, true, true, true, false, false, false, false, false, false, false, false, false] rfl rfl (by kernel_rfl) (fun _ _ _ h => h) (Or.inl ⟨by rfl, ?_⟩) ?_ ?_  -- 29 binOp Bineql 5 (tmp 99) (const (int u8 64)) 5
    rotate_left
    · intro w'; go_simp; with_reducible rfl
    rotate_left
    · simp only [Act.put, List.setIfInBounds_toArray, List.set_cons_zero, List.set_cons_succ, i64_w, i32_w]; rfl
    refine kpure (i := 30) (N := (some 101)) (v := ?_) (a' := ?_) #[true, true, true, true, true, true, true, true, true, true, true, true, true, true, true, true, true, true, true, true, true, true, true, true, true, true, true, true, true, true, true, false, false, false, false, false, false, false, false] rfl rfl (by kernel_rfl) (fun _ _ _ h => h) (Or.inl ⟨by rfl, ?_⟩) ?_ ?_  -- 30 pick (tmp 96) (tmp 100) (const (bool false))
    rotate_left
    · intro w'; go_simp; with_reducible rfl
    rotate_left
    · simp only [Act.put, List.setIfInBounds_toArray, List.set_cons_zero, List.set_cons_succ, i64_w, i32_w]; rfl
    refine kpure (i := 31) (N := (some 102)) (v := ?_) (a' := ?_) #[true, true, true, true, true, true, true, true, true, true, true, true, true, true, true, true, true, true, true, true, true, true, true, true, true, true, true, true, true, true, true, true, false, false, false, false, false, false, false] rfl rfl (by kernel_rfl) (fun _ _ _ h => h) (Or.inl ⟨by rfl, ?_⟩) ?_ ?_  -- 31 move (tmp 101)
    rotate_left
    · intro w'; go_simp; with_reducible rfl
    rotate_left
    · simp only [Act.put, List.setIfInBounds_toArray, List.set_cons_zero, List.set_cons_succ, i64_w, i32_w]; rfl
    refine kpure (i := 32) (N := (some 103)) (v := ?_) (a' := ?_) #[true, true, true, true, true, true, true, true, true, true, true, true, true, true, true, true, true, true, true, true, true, true, true, true, true, true, true, true, true, true, true, true, true, false, false, false, false, false, false] rfl rfl (by kernel_rfl) (fun _ _ _ h => h) (Or.inl ⟨by rfl, ?_⟩) ?_ ?_  -- 32 move (tmp 5)
    rotate_left
    · intro w'; go_simp; with_reducible rfl
    rotate_left
    · simp only [Act.put, List.setIfInBounds_toArray, List.set_cons_zero, List.set_cons_succ, i64_w, i32_w]; rfl
    refine kpure (i := 33) (N := (some 104)) (v := ?_) (a' := ?_) #[true, true, true, true, true, true, true, true, true, true, true, true, true, true, true, true, true, true, true, true, true, true, true, true, true, true, true, true, true, true, true, true, true, true, false, false, false, false, false] rfl rfl (by kernel_rfl) (fun _ _ _ h => h) (Or.inl ⟨by rfl, ?_⟩) ?_ ?_  -- 33 slice 9 (tmp 103) (some (const (int i64 1))) (some (const (int i64 31))) none
    rotate_left
    · intro w'; go_simp; with_reducible rfl
    rotate_left
    · simp only [Act.put, List.setIfInBounds_toArray, List.set_cons_zero, List.set_cons_succ, i64_w, i32_w]; rfl
    refine kpure (i := 34) (N := (some 105)) (v := ?_) (a' := ?_) #[true, true, true, true, true, true, true, true, true, true, true, true, true, true, true, true, true, true, true, true, true, true, true, true, true, true, true, true, true, true, true, true, true, true, true, false, false, false, false] rfl rfl (by kernel_rfl) (fun _ _ _ h => h) (Or.inl ⟨by rfl, ?_⟩) ?_ ?_  -- 34 move (tmp 0)
    rotate_left
    · intro w'; go_simp; with_reducible rfl
    rotate_left
    · simp only [Act.put, List.setIfInBounds_toArray, List.set_cons_zero, List.set_cons_succ, i64_w, i32_w]; rfl
    refine kpure (i := 35) (N := (some 106)) (v := ?_) (a' := ?_) #[true, true, true, true, true, true, true, true, true, true, true, true, true, true, true, true, true, true, true, true, true, true, true, true, true, true, true, true, true, true, true, true, true, true, true, true, false, false, false] rfl rfl (by kernel_rfl) (fun _ _ _ h => h) (Or.inl ⟨by rfl, ?_⟩) ?_ ?_  -- 35 slice 9 (tmp 105) (some (const (int i64 1))) (some (const (int i64 31))) none
    rotate_left
    · intro w'; go_simp; with_reducible rfl
    rotate_left
    · simp only [Act.put, List.setIfInBounds_toArray, List.set_cons_zero, List.set_cons_succ, i64_w, i32_w]; rfl
    refine kpure (i := 36) (N := (some 107)) (v := ?_) (a' := ?_) #[true, true, true, true, true, true, true, true, true, true, true, true, true, true, true, true, true, true, true, true, true, true, true, true, true, true, true, true, true, true, true, true, true, true, true, true, true, false, false] rfl rfl (by kernel_rfl) (fun _ _ _ h => h) (Or.inl ⟨by rfl, ?_⟩) ?_ ?_  -- 36 binOp Bineql 9 (tmp 104) (tmp 106) 9
    rotate_left
    · intro w'; go_simp; with_reducible rfl
    rotate_left
    · simp only [Act.put, List.setIfInBounds_toArray, List.set_cons_zero, List.set_cons_succ, i64_w, i32_w]; rfl
    refine kpure (i := 37) (N := (some 108)) (v := ?_) (a' := ?_) #[true, true, true, true, true, true, true, true, true, true, true, true, true, true, true, true, true, true, true, true, true, true, true, true, true, true, true, true, true, true, true, true, true, true, true, true, true, true, false] rfl rfl (by kernel_rfl) (fun _ _ _ h => h) (Or.inl ⟨by rfl, ?_⟩) ?_ ?_  -- 37 pick (tmp 102) (tmp 107) (const (bool false))
    rotate_left
    · intro w'; go_simp; with_reducible rfl
    rotate_left
    · simp only [Act.put, List.setIfInBounds_toArray, List.set_cons_zero, List.set_cons_succ, i64_w, i32_w]; rfl
    refine kpure (i := 38) (N := (some 4)) (v := ?_) (a' := ?_) #[true, true, true, true, true, true, true, true, true, true, true, true, true, true, true, true, true, true, true, true, true, true, true, true, true, true, true, true, true, true, true, true, true, true, true, true, true, true, true] rfl rfl (by kernel_rfl) (fun _ _ _ h => h) (Or.inl ⟨by rfl, ?_⟩) ?_ ?_  -- 38 assign (tmp 108)
    rotate_left
    · intro w'; go_simp; with_reducible rfl
    rotate_left
    · simp only [Act.put, List.setIfInBounds_toArray, List.set_cons_zero, List.set_cons_succ, i64_w, i32_w]; rfl
    refine kdone (by kernel_rfl) (fun w1 hg => ?_)
    replace HB := Aside0.mk (below_step HB.out hg)
    clear hg
    go_wp2
    go_ret
    exact ⟨rfl, HB.out⟩
  · skip
    go_enter Try.func8, Try.ntmps8
    go_wp2_with fail
    refine (cut02 a _).mono ?_
    rintro e w1 ⟨rfl, hb⟩
    have HB := Aside0.mk hb
    clear hb
    go_wp2_with fail
    refine (cut02 b _).mono ?_
    rintro e w1 ⟨rfl, hb⟩
    replace HB := Aside0.mk (below_step HB.out hb)
    clear hb
    generalize cutN a 34 = x at *
    generalize cutN b 34 = y at *
    have tx := sz2_nf hx
    have ty := sz2_nt hy
    have HX := Aside0.mk hx
    have HY := Aside0.mk hy
    clear hx hy
    go_wp2_with fail
    refine (Clamp_any x HX.out _).mono ?_
    rintro e w1 ⟨rfl, hb⟩
    replace HB := Aside0.mk (below_step HB.out hb)
    clear hb
    go_wp2_with fail
    refine (Mult_bad x y (fun h => HY.out h.2) _).mono ?_
    rintro e w1 ⟨rfl, hb⟩
    replace HB := Aside0.mk (below_step HB.out hb)
    clear hb
    go_wp2_with fail
    refine (alive02 _).mono ?_
    rintro e w1 ⟨rfl, hb⟩
    replace HB := Aside0.mk (below_step HB.out hb)
    clear hb
    go_wp2
    go_ret
    exact ⟨rfl, HB.out⟩
  · skip
    go_enter Try.func8, Try.ntmps8
    go_wp2_with fail
    refine (cut02 a _).mono ?_
    rintro e w1 ⟨rfl, hb⟩
    have HB := Aside0.mk hb
    clear hb
    go_wp2_with fail
    refine (cut02 b _).mono ?_
    rintro e w1 ⟨rfl, hb⟩
    replace HB := Aside0.mk (below_step HB.out hb)
    clear hb
    generalize cutN a 34 = x at *
    generalize cutN b 34 = y at *
    have tx := sz2_nt hx
    have ty := sz2_nf hy
    have HX := Aside0.mk hx
    have HY := Aside0.mk hy
    clear hx hy
    go_wp2_with fail
    refine (Clamp_bad x HX.out _).mono ?_
    rintro e w1 ⟨rfl, hb⟩
    replace HB := Aside0.mk (below_step HB.out hb)
    clear hb
    go_wp2_with fail
    refine (Mult_bad x y (fun h => HX.out h.1) _).mono ?_
    rintro e w1 ⟨rfl, hb⟩
    replace HB := Aside0.mk (below_step HB.out hb)
    clear hb
    go_wp2_with fail
    refine (alive02 _).mono ?_
    rintro e w1 ⟨rfl, hb⟩
    replace HB := Aside0.mk (below_step HB.out hb)
    clear hb
    go_wp2
    go_ret
    exact ⟨rfl, HB.out⟩
  · skip
    go_enter Try.func8, Try.ntmps8
    go_wp2_with fail
    refine (cut02 a _).mono ?_
    rintro e w1 ⟨rfl, hb⟩
    have HB := Aside0.mk hb
    clear hb
    go_wp2_with fail
    refine (cut02 b _).mono ?_
    rintro e w1 ⟨rfl, hb⟩
    replace HB := Aside0.mk (below_step HB.out hb)
    clear hb
    generalize cutN a 34 = x at *
    generalize cutN b 34 = y at *
    have tx := sz2_nt hx
    have ty := sz2_nt hy
    have HX := Aside0.mk hx
    have HY := Aside0.mk hy
    clear hx hy
    go_wp2_with fail
    refine (Clamp_bad x HX.out _).mono ?_
    rintro e w1 ⟨rfl, hb⟩
    replace HB := Aside0.mk (below_step HB.out hb)
    clear hb
    go_wp2_with fail
    refine (Mult_bad x y (fun h => HX.out h.1) _).mono ?_
    rintro e w1 ⟨rfl, hb⟩
    replace HB := Aside0.mk (below_step HB.out hb)
    clear hb
    go_wp2_with fail
    refine (alive02 _).mono ?_
    rintro e w1 ⟨rfl, hb⟩
    replace HB := Aside0.mk (below_step HB.out hb)
    clear hb
    go_wp2
    go_ret
    exact ⟨rfl, HB.out⟩
end Go.Proofs.Ytdmpnogjpgoaaaa

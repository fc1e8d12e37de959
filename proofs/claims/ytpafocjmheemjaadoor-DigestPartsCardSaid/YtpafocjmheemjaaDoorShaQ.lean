import Derived.Test.YtpafocjmheemjaaDoorShaP
/-! A block's words; behind, twice. -/
namespace Go.Proofs.YtpafocjmheemjaaDoor
open Go.RowKit Go.Proofs.YtpafocjmheemjaaDoorW.PrintWords
theorem ld_keep (b : ByteArray) (j : Nat) : ∀ n, ldF b (4 * j + 4 + n) j = ldF b (4 * j + 4) j
  | 0 => rfl
  | n + 1 => by
    show upd (ldF b (4 * j + 4 + n)) ((4 * j + 4 + n) / 4) _ j = _
    unfold upd
    rw [if_neg (by omega)]
    exact ld_keep b j n
theorem ld_zero (b : ByteArray) (j : Nat) : ∀ i, i ≤ 4 * j → ldF b i j = 0#32
  | 0, _ => rfl
  | i + 1, h => by
    show upd (ldF b i) (i / 4) _ j = _
    unfold upd
    rw [if_neg (by omega)]
    exact ld_zero b j i (by omega)
theorem ld_step (b : ByteArray) (j r : Nat) (hr : r < 4) : ldF b (4 * j + r + 1) j = ldF b (4 * j + r) j <<< 8 ||| byW (b.data.getD (4 * j + r) 0) := by
  show upd (ldF b (4 * j + r)) ((4 * j + r) / 4) _ j = _
  unfold upd
  have e : (4 * j + r) / 4 = j := by omega
  rw [e, if_pos rfl]
theorem byW_N (c : UInt8) : (byW c).toNat = c.toNat := by
  have := c.toNat_lt
  unfold byW
  rw [BitVec.toNat_ofNat, Nat.mod_eq_of_lt (by omega)]
theorem shl_or (x : W32) (c : UInt8) (hx : x.toNat < 16777216) : (x <<< 8 ||| byW c).toNat = x.toNat * 256 + c.toNat := by
  have hc := c.toNat_lt
  rw [BitVec.toNat_or, BitVec.toNat_shiftLeft, byW_N, Nat.shiftLeft_eq, Nat.mod_eq_of_lt (by omega), show x.toNat * 2 ^ 8 = x.toNat <<< 8 by rw [Nat.shiftLeft_eq], ← Nat.shiftLeft_add_eq_or_of_lt (by omega), Nat.shiftLeft_eq]
/-- four bytes as a number -/
def w4 (b : ByteArray) (j : Nat) : Nat := (((b.data.getD (4 * j) 0).toNat * 256 + (b.data.getD (4 * j + 1) 0).toNat) * 256 + (b.data.getD (4 * j + 2) 0).toNat) * 256 + (b.data.getD (4 * j + 3) 0).toNat
theorem ld_N (b : ByteArray) (j : Nat) (hj : j < 16) : (ldF b 64 j).toNat = w4 b j := by
  obtain ⟨n, hn⟩ : ∃ n, 64 = 4 * j + 4 + n := ⟨60 - 4 * j, by omega⟩
  rw [hn, ld_keep]
  have b0 := (b.data.getD (4 * j) 0).toNat_lt
  have b1 := (b.data.getD (4 * j + 1) 0).toNat_lt
  have b2 := (b.data.getD (4 * j + 2) 0).toNat_lt
  have e0 : (ldF b (4 * j) j).toNat = 0 := by rw [ld_zero b j _ (Nat.le_refl _)]; rfl
  have e1 : (ldF b (4 * j + 1) j).toNat = (b.data.getD (4 * j) 0).toNat := by
    have := ld_step b j 0 (by omega)
    rw [show 4 * j + 0 + 1 = 4 * j + 1 from rfl, show 4 * j + 0 = 4 * j from rfl] at this
    rw [this, shl_or _ _ (by omega), e0]; omega
  have e2 : (ldF b (4 * j + 2) j).toNat = (b.data.getD (4 * j) 0).toNat * 256 + (b.data.getD (4 * j + 1) 0).toNat := by
    rw [ld_step b j 1 (by omega), shl_or _ _ (by omega), e1]
  have e3 : (ldF b (4 * j + 3) j).toNat = ((b.data.getD (4 * j) 0).toNat * 256 + (b.data.getD (4 * j + 1) 0).toNat) * 256 + (b.data.getD (4 * j + 2) 0).toNat := by
    rw [ld_step b j 2 (by omega), shl_or _ _ (by omega), e2]
  rw [ld_step b j 3 (by omega), shl_or _ _ (by omega), e3]
  rfl
def wl (b : ByteArray) : List Nat := (List.range 16).map (w4 b)
theorem mix_N (v : Nat → W32) (b : ByteArray) : st8 (mixF v b) = mixN (wl b) (st8 v) := by
  rw [← mixN_eq]
  congr 1
  exact List.map_congr_left fun j hj => ld_N b j (List.mem_range.1 hj)
def foldN (all : ByteArray) : Nat → List Nat → List Nat
  | 0, vs => vs
  | k + 1, vs => mixN (wl (blkF all k)) (foldN all k vs)
theorem fold_N (f : Nat → W32) (all : ByteArray) : ∀ k, st8 (foldF f all k) = foldN all k (st8 f)
  | 0 => rfl
  | k + 1 => by
    show st8 (mixF _ _) = mixN _ _
    rw [mix_N, fold_N f all k]
theorem iv_N : st8 ivF = ivL := by decide +kernel
/-! ### parts -/
theorem ext_app (a b : ByteArray) (i j : Nat) (h : j ≤ a.size) : (a ++ b).extract i j = a.extract i j := by
  apply ByteArray.ext
  rw [ByteArray.data_extract, ByteArray.data_extract, ByteArray.data_append, Array.extract_append]
  rw [show (b.data.extract (i - a.data.size) (j - a.data.size)) = #[] from by
    rw [Array.extract_eq_empty_iff]
    have : a.data.size = a.size := rfl
    omega]
  simp
theorem fold_left (f : Nat → W32) (a b : ByteArray) : ∀ k, 64 * k ≤ a.size → foldF f (a ++ b) k = foldF f a k
  | 0, _ => rfl
  | k + 1, h => by
    show mixF _ _ = mixF _ _
    rw [fold_left f a b k (by omega)]
    unfold blkF
    rw [ext_app _ _ _ _ (by omega)]
theorem ext_list (a : ByteArray) (i j : Nat) : (a.extract i j).data.toList = (a.data.toList.drop i).take (j - i) := by
  rw [ByteArray.data_extract, Array.toList_extract]
theorem ba_ext {a b : ByteArray} (h : a.data.toList = b.data.toList) : a = b := ByteArray.ext (Array.toList_inj.1 h)
theorem app_list (a b : ByteArray) : (a ++ b).data.toList = a.data.toList ++ b.data.toList := by rw [ByteArray.data_append, Array.toList_append]
theorem len_list (a : ByteArray) : a.data.toList.length = a.size := rfl
theorem ext_all (a : ByteArray) (n : Nat) : (a.extract n a.size).data.toList = a.data.toList.drop n := by
  rw [ext_list, List.take_of_length_le (by rw [List.length_drop, len_list]; omega)]
theorem left_app (a b : ByteArray) (n : Nat) (h : n ≤ a.size) : a.extract n a.size ++ b = (a ++ b).extract n (a ++ b).size := by
  apply ba_ext
  rw [app_list, ext_all, ext_all, app_list, List.drop_append_of_le_length (by rw [len_list]; exact h)]
theorem foldF_off (f : Nat → W32) (all : ByteArray) (q : Nat) : ∀ k, foldF (foldF f all q) (all.extract (64 * q) all.size) k = if 64 * (q + k) ≤ all.size then foldF f all (q + k) else foldF (foldF f all q) (all.extract (64 * q) all.size) k
  | 0 => by split <;> rfl
  | k + 1 => by
    split
    · rename_i h
      have ih := foldF_off f all q k
      rw [if_pos (by omega)] at ih
      show mixF (foldF _ _ k) _ = mixF (foldF f all (q + k)) _
      rw [ih]
      unfold blkF
      congr 1
      apply ba_ext
      rw [ext_list, ext_all, ext_list, List.drop_drop, show 64 * q + 64 * k = 64 * (q + k) by omega, show 64 * k + 64 - 64 * k = 64 by omega]
      show _ = List.take (64 * (q + k) + 64 - 64 * (q + k)) (List.drop (64 * (q + k)) all.data.toList)
      rw [show 64 * (q + k) + 64 - 64 * (q + k) = 64 by omega]
    · rfl
/-- behind a and then b is behind both at once -/
theorem words_two (f : Nat → W32) (a b : ByteArray) : wordsF (wordsF f a) (leftF a ++ b) = wordsF f (a ++ b) := by
  unfold wordsF leftF
  have hq : 64 * (a.size / 64) ≤ a.size := by omega
  rw [left_app a b _ hq, ← fold_left f a b _ hq]
  have hs : ((a ++ b).extract (64 * (a.size / 64)) (a ++ b).size).size = (a ++ b).size - 64 * (a.size / 64) := by rw [ext_size]
  rw [foldF_off, if_pos (by rw [hs]; have := ByteArray.size_append (a := a) (b := b); omega)]
  congr 1
  rw [hs]
  have := ByteArray.size_append (a := a) (b := b)
  omega
theorem left_two (a b : ByteArray) : leftF (leftF a ++ b) = leftF (a ++ b) := by
  have hq : 64 * (a.size / 64) ≤ a.size := by omega
  unfold leftF
  rw [left_app a b _ hq]
  have hs : ((a ++ b).extract (64 * (a.size / 64)) (a ++ b).size).size = (a ++ b).size - 64 * (a.size / 64) := by rw [ext_size]
  have := ByteArray.size_append (a := a) (b := b)
  apply ba_ext
  rw [ext_all, ext_all, ext_all, List.drop_drop, hs]
  congr 1
  omega
theorem leftF_size (a : ByteArray) : (leftF a).size = a.size % 64 := by unfold leftF; rw [ext_size]; omega
theorem right_behind {rest s : ByteArray} {m : Nat} (h : rightB 8 rest m = true) : rightB 8 (leftF (rest ++ s)) (addM m s.size) = true := by
  unfold rightB at *
  simp at h ⊢
  rw [leftF_size, ByteArray.size_append]
  unfold addM
  omega
theorem addM_two (m a b : Nat) : addM (addM m a) b = addM m (a + b) := by unfold addM; omega
end Go.Proofs.YtpafocjmheemjaaDoor

import Derived.Test.YtpafocjmheemjaaDoorShaG
/-! The words of a block one by one; a block reckoned with numbers. -/
namespace Go.Proofs.YtpafocjmheemjaaDoor
open Go.RowKit
theorem run1 (f v : Nat → W32) (t : Nat) : (runF f v (t + 1)).1 = if 16 ≤ t then upd (runF f v t).1 (t % 16) (moreF (runF f v t).1 t) else (runF f v t).1 := rfl
/-- the t-th word -/
def Wd (f v : Nat → W32) (t : Nat) : W32 := (runF f v (t + 1)).1 (t % 16)
/-- the state behind t rounds -/
def Sd (f v : Nat → W32) (t : Nat) : Nat → W32 := (runF f v t).2
theorem Sd_succ (f v : Nat → W32) (t : Nat) : Sd f v (t + 1) = roundF (keyF t) (Wd f v t) (Sd f v t) := rfl
theorem run_low (f v : Nat → W32) : ∀ t, t ≤ 16 → (runF f v t).1 = f
  | 0, _ => rfl
  | t + 1, h => by rw [run1, if_neg (by omega)]; exact run_low f v t (by omega)
theorem run_keep (f v : Nat → W32) (i : Nat) : ∀ d, d < 16 → (runF f v (i + 1 + d)).1 (i % 16) = Wd f v i
  | 0, _ => rfl
  | d + 1, h => by
    have ih := run_keep f v i d (by omega)
    rw [show i + 1 + (d + 1) = (i + 1 + d) + 1 by omega, run1]
    split
    · unfold upd
      rw [if_neg (by omega)]; exact ih
    · exact ih
theorem Wd_low (f v : Nat → W32) (t : Nat) (h : t < 16) : Wd f v t = f t := by unfold Wd; rw [run_low f v (t + 1) (by omega), Nat.mod_eq_of_lt h]
def sig1 (y : W32) : W32 := ror y 17 ^^^ ror y 19 ^^^ y >>> 10
def sig0 (x : W32) : W32 := ror x 7 ^^^ ror x 18 ^^^ x >>> 3
theorem Wd_high (f v : Nat → W32) (t : Nat) : Wd f v (t + 16) = sig1 (Wd f v (t + 14)) + Wd f v (t + 9) + sig0 (Wd f v (t + 1)) + Wd f v t := by
  have e (i d : Nat) (hd : d < 16) (hi : i + 1 + d = t + 16) (j : Nat) (hj : j % 16 = i % 16) : (runF f v (t + 16)).1 (j % 16) = Wd f v i := by rw [hj, ← hi]; exact run_keep f v i d hd
  show (runF f v (t + 16 + 1)).1 ((t + 16) % 16) = _
  rw [run1, if_pos (by omega)]
  unfold upd
  rw [if_pos rfl]
  unfold moreF
  rw [e (t + 14) 1 (by omega) (by omega) (t + 16 + 14) (by omega), e (t + 9) 6 (by omega) (by omega) (t + 16 + 9) (by omega), e (t + 1) 14 (by omega) (by omega) (t + 16 + 1) (by omega), e t 15 (by omega) (by omega) (t + 16) (by omega)]
  rfl
/-! ### with numbers -/
def rN (x n : Nat) : Nat := (x >>> n) ||| ((x <<< (32 - n)) % 4294967296)
theorem ror_N (x : W32) (n : Nat) : (ror x n).toNat = rN x.toNat n := by unfold ror rN; rw [BitVec.toNat_or, BitVec.toNat_ushiftRight, BitVec.toNat_shiftLeft]
def fo {α : Type} (n : Nat) (k : Nat → α) : α := match n with
  | 0 => k 0
  | m + 1 => k (m + 1)
theorem fo_eq {α : Type} (n : Nat) (k : Nat → α) : fo n k = k n := by cases n <;> rfl
def runN : List Nat → List Nat → Nat → Nat → Nat → Nat → Nat → Nat → Nat → Nat → List Nat
  | [], _, a, b, c, d, e, f, g, h => [a, b, c, d, e, f, g, h]
  | k :: ks, w :: ws, a, b, c, d, e, f, g, h =>
    fo ((h + (rN e 6 ^^^ rN e 11 ^^^ rN e 25) + (g ^^^ e &&& (f ^^^ g)) + k + w) % 4294967296) fun t1 =>
    fo (((rN a 2 ^^^ rN a 13 ^^^ rN a 22) + (a &&& b ||| c &&& (a ||| b)) + t1) % 4294967296) fun a' =>
    fo ((d + t1) % 4294967296) fun e' =>
    fo (((rN (ws.getD 13 0) 17 ^^^ rN (ws.getD 13 0) 19 ^^^ (ws.getD 13 0) >>> 10) + ws.getD 8 0 + (rN (ws.getD 0 0) 7 ^^^ rN (ws.getD 0 0) 18 ^^^ (ws.getD 0 0) >>> 3) + w) % 4294967296) fun x =>
    runN ks (ws ++ [x]) a' a b c e' e f g
  | _ :: _, [], _, _, _, _, _, _, _, _ => []
def st8 (s : Nat → W32) : List Nat := [(s 0).toNat, (s 1).toNat, (s 2).toNat, (s 3).toNat, (s 4).toNat, (s 5).toNat, (s 6).toNat, (s 7).toNat]
def winN (f v : Nat → W32) (t : Nat) : List Nat := (List.range 16).map (fun j => (Wd f v (t + j)).toNat)
theorem winN_cons (f v : Nat → W32) (t : Nat) : winN f v t = (Wd f v t).toNat :: (List.range 15).map (fun j => (Wd f v (t + 1 + j)).toNat) := by
  unfold winN
  rw [List.range_succ_eq_map, List.map_cons, List.map_map]
  congr 1
theorem winN_snoc (f v : Nat → W32) (t : Nat) : winN f v (t + 1) = (List.range 15).map (fun j => (Wd f v (t + 1 + j)).toNat) ++ [(Wd f v (t + 16)).toNat] := by
  unfold winN
  rw [List.range_succ, List.map_append]
  rfl
theorem keyF_N (t : Nat) (h : t < 64) : (keyF t).toNat = keyL.getD t 0 := by
  have e : ∀ n : Fin 64, (keyL.getD n.val 0) < 4294967296 := by decide +kernel
  unfold keyF
  rw [BitVec.toNat_ofNat, Nat.mod_eq_of_lt (e ⟨t, h⟩)]
theorem round_N (k w : W32) (s : Nat → W32) : (roundF k w s 0).toNat = (((rN (s 0).toNat 2 ^^^ rN (s 0).toNat 13 ^^^ rN (s 0).toNat 22) + ((s 0).toNat &&& (s 1).toNat ||| (s 2).toNat &&& ((s 0).toNat ||| (s 1).toNat)) + (t1F k w s).toNat) % 4294967296) := by
  show (t1F k w s + t2F s).toNat = _
  unfold t2F
  simp only [BitVec.toNat_add, BitVec.toNat_or, BitVec.toNat_and, BitVec.toNat_xor, ror_N]
  omega
theorem t1_N (k w : W32) (s : Nat → W32) : (t1F k w s).toNat = ((s 7).toNat + (rN (s 4).toNat 6 ^^^ rN (s 4).toNat 11 ^^^ rN (s 4).toNat 25) + ((s 6).toNat ^^^ (s 4).toNat &&& ((s 5).toNat ^^^ (s 6).toNat)) + k.toNat + w.toNat) % 4294967296 := by
  unfold t1F
  simp only [BitVec.toNat_add, BitVec.toNat_and, BitVec.toNat_xor, ror_N]
  omega
theorem runN_eq (f v : Nat → W32) : ∀ n t, t + n = 64 → runN (keyL.drop t) (winN f v t) (Sd f v t 0).toNat (Sd f v t 1).toNat (Sd f v t 2).toNat (Sd f v t 3).toNat (Sd f v t 4).toNat (Sd f v t 5).toNat (Sd f v t 6).toNat (Sd f v t 7).toNat = st8 (Sd f v 64)
  | 0, t, h => by
    obtain rfl : t = 64 := by omega
    rw [show keyL.drop 64 = [] from rfl]; rfl
  | n + 1, t, h => by
    have ih := runN_eq f v n (t + 1) (by omega)
    have hk := keyF_N t (by omega)
    have hd : keyL.drop t = keyL.getD t 0 :: keyL.drop (t + 1) := by
      have hl : t < keyL.length := by rw [keyL_len]; omega
      rw [List.drop_eq_getElem_cons hl, List.getD_eq_getElem?_getD, List.getElem?_eq_getElem hl]; rfl
    rw [hd, winN_cons, ← hk]
    unfold runN
    simp only [fo_eq]
    have g (j : Nat) (hj : j < 15) : ((List.range 15).map (fun j => (Wd f v (t + 1 + j)).toNat)).getD j 0 = (Wd f v (t + 1 + j)).toNat := by
      rw [List.getD_eq_getElem?_getD, List.getElem?_map, List.getElem?_range hj]; rfl
    rw [g 13 (by omega), g 8 (by omega), g 0 (by omega)]
    have hw : ((rN (Wd f v (t + 14)).toNat 17 ^^^ rN (Wd f v (t + 14)).toNat 19 ^^^ (Wd f v (t + 14)).toNat >>> 10) + (Wd f v (t + 9)).toNat + (rN (Wd f v (t + 1)).toNat 7 ^^^ rN (Wd f v (t + 1)).toNat 18 ^^^ (Wd f v (t + 1)).toNat >>> 3) + (Wd f v t).toNat) % 4294967296 = (Wd f v (t + 16)).toNat := by
      rw [Wd_high]
      unfold sig1 sig0
      simp only [BitVec.toNat_add, BitVec.toNat_xor, BitVec.toNat_ushiftRight, ror_N]
      omega
    rw [show t + 1 + 13 = t + 14 by omega, show t + 1 + 8 = t + 9 by omega, show t + 1 + 0 = t + 1 by omega, hw, ← winN_snoc, ← t1_N, ← round_N, ← ih, Sd_succ]
    rw [show ((Sd f v t 3).toNat + (t1F (keyF t) (Wd f v t) (Sd f v t)).toNat) % 4294967296 = (roundF (keyF t) (Wd f v t) (Sd f v t) 4).toNat from (BitVec.toNat_add _ _).symm]
    rfl
/-- a block, with numbers: 16 words, 8 words -/
def mixN (ws vs : List Nat) : List Nat := (runN keyL ws (vs.getD 0 0) (vs.getD 1 0) (vs.getD 2 0) (vs.getD 3 0) (vs.getD 4 0) (vs.getD 5 0) (vs.getD 6 0) (vs.getD 7 0)).zipWith (fun a b => (a + b) % 4294967296) vs
theorem mixN_eq (v : Nat → W32) (b : ByteArray) : mixN ((List.range 16).map (fun j => (ldF b 64 j).toNat)) (st8 v) = st8 (mixF v b) := by
  have h := runN_eq (ldF b 64) v 64 0 rfl
  have hw : winN (ldF b 64) v 0 = (List.range 16).map (fun j => (ldF b 64 j).toNat) := by
    unfold winN
    refine List.map_congr_left fun j hj => ?_
    rw [Nat.zero_add, Wd_low _ _ _ (List.mem_range.1 hj)]
  rw [hw] at h
  unfold mixN
  rw [show keyL = keyL.drop 0 from rfl]
  have e (i : Nat) : (Sd (ldF b 64) v 0 i).toNat = (v i).toNat := rfl
  simp only [e] at h
  show List.zipWith _ (runN (keyL.drop 0) _ (v 0).toNat (v 1).toNat (v 2).toNat (v 3).toNat (v 4).toNat (v 5).toNat (v 6).toNat (v 7).toNat) _ = _
  rw [h]
  unfold st8
  simp only [List.zipWith_cons_cons, List.zipWith_nil_left]
  have m (j : Nat) : ((Sd (ldF b 64) v 64 j).toNat + (v j).toNat) % 4294967296 = (mixF v b j).toNat := by
    show _ = (v j + Sd (ldF b 64) v 64 j).toNat
    rw [BitVec.toNat_add]; omega
  simp only [m]
end Go.Proofs.YtpafocjmheemjaaDoor

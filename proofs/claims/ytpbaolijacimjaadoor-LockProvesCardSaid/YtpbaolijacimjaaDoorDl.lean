import Derived.Test.YtpbaolijacimjaaDoorDs
import Derived.Test.YtpbaolijacimjaaDoorDt
import Derived.Test.YtpbaolijacimjaaDoorDe
import Derived.Test.YtpbaolijacimjaaDoorDb
import Derived.Test.YtpbaolijacimjaaDoorVa
set_option linter.unusedSimpArgs false
/- LAYER 5: the document's answer is the program's. -/
namespace Go.Proofs.YtpbaolijacimjaaDoor
open Go.RowKit Go.Proofs.YtpbaolijacimjaaDoorW.PrintWords Go.Proofs.YtpbaolijacimjaaDoorW.PrintLast Go.Proofs.YtpbaolijacimjaaDoorW.PrintMore Go.Proofs.YtpbaolijacimjaaDoor.PLockTells
/-- sixteen words -/
def sw16 (f : Nat → W32) : List Int := (List.range 16).map (fun i => un (f i))
theorem sw16_len (f : Nat → W32) : (sw16 f).length = 16 := by unfold sw16; rw [List.length_map, List.length_range]
theorem sw16_rd (f : Nat → W32) (a : Nat) (h : a < 16) : rd (sw16 f) (a : Int) = un (f a) := by
  unfold rd sw16
  rw [Int.toNat_natCast, List.getD_eq_getElem?_getD, List.getElem?_map, List.getElem?_range h]; rfl
theorem sw16_set (f : Nat → W32) (a : Nat) (h : a < 16) (x : W32) : (sw16 f).set a (un x) = sw16 (upd f a x) := by
  refine List.ext_getElem? fun i => ?_
  rw [List.getElem?_set, sw16_len]
  unfold sw16
  rw [List.getElem?_map, List.getElem?_map]
  by_cases hi : a = i
  · subst hi
    rw [if_pos rfl, if_pos h, List.getElem?_range h]
    simp [upd]
  · rw [if_neg hi]
    rcases Nat.lt_or_ge i 16 with h1 | h1
    · rw [List.getElem?_range h1]
      simp [upd, Ne.symm hi]
    · rw [List.getElem?_eq_none (by simpa using h1)]; rfl
theorem rol_f (x : W32) (n : Nat) (h0 : 0 < n) (h1 : n < 32) : demurralref05_rol.f (un x) (n : Int) = some (un (rol x n)) := by
  unfold demurralref05_rol.f
  rw [if_pos (by omega)]
  refine congrArg some ?_
  have e1 : shl .u32 (un x) (n : Int) = un (x <<< n) := by
    show IntKind.u32.wrap (un x * 2 ^ min (n : Int).toNat 32) = _
    rw [Int.toNat_natCast, Nat.min_eq_left (by omega)]
    exact un_shl x n
  have e2 : shr .u32 (un x) ((32 - (n : Int)) % 4294967296) = un (x >>> (32 - n)) := by
    show un x / 2 ^ min ((32 - (n : Int)) % 4294967296).toNat 32 = _
    rw [show ((32 - (n : Int)) % 4294967296).toNat = 32 - n by omega, Nat.min_eq_left (by omega)]
    exact un_shr x (32 - n)
  rw [e1, e2, un_or]; rfl
theorem rol16 (x : W32) : demurralref05_rol.f (un x) 16 = some (un (rol x 16)) := rol_f x 16 (by decide) (by decide)
theorem rol12 (x : W32) : demurralref05_rol.f (un x) 12 = some (un (rol x 12)) := rol_f x 12 (by decide) (by decide)
theorem rol8 (x : W32) : demurralref05_rol.f (un x) 8 = some (un (rol x 8)) := rol_f x 8 (by decide) (by decide)
theorem rol7 (x : W32) : demurralref05_rol.f (un x) 7 = some (un (rol x 7)) := rol_f x 7 (by decide) (by decide)
theorem Quarter_f (a b c d : W32) : demurralref05_Quarter.f (un a) (un b) (un c) (un d) = some (un (qr (a, b, c, d)).1, un (qr (a, b, c, d)).2.1, un (qr (a, b, c, d)).2.2.1, un (qr (a, b, c, d)).2.2.2) := by
  unfold demurralref05_Quarter.f
  simp only [un_add, un_xor, rol16, rol12, rol8, rol7, Option.bind_some]
  rfl
theorem mix_f (f : Nat → W32) (a b c d : Nat) (ha : a < 16) (hb : b < 16) (hc : c < 16) (hd : d < 16) : demurralref05_mix.f (sw16 f) (a : Int) (b : Int) (c : Int) (d : Int) = some (sw16 (cmx f a b c d)) := by
  have a0 : (0 : Int) ≤ (a : Int) := by omega
  have b0 : (0 : Int) ≤ (b : Int) := by omega
  have c0 : (0 : Int) ≤ (c : Int) := by omega
  have d0 : (0 : Int) ≤ (d : Int) := by omega
  have a1 : (a : Int) < ((16 : Nat) : Int) := by omega
  have b1 : (b : Int) < ((16 : Nat) : Int) := by omega
  have c1 : (c : Int) < ((16 : Nat) : Int) := by omega
  have d1 : (d : Int) < ((16 : Nat) : Int) := by omega
  unfold demurralref05_mix.f
  rw [sw16_rd f a ha, sw16_rd f b hb, sw16_rd f c hc, sw16_rd f d hd, Quarter_f]
  simp only [sw16_len, a0, b0, c0, d0, a1, b1, c1, d1, if_true, Option.bind_some, List.nil_append, List.length_nil, Int.toNat_natCast]
  rw [if_pos (by decide), sw16_set f a ha, sw16_set _ b hb, sw16_set _ c hc, sw16_set _ d hd]
  rfl
/-- the j-th byte -/
def bd (s : ByteArray) (j : Nat) : Nat := (bOf s).getD j 0
theorem bd_lt (s : ByteArray) (j : Nat) : bd s j < 256 := getD_lt _ (bOf_lt s) j
theorem bd_data (s : ByteArray) (j : Nat) : (s.data.getD j 0).toNat = bd s j := by
  unfold bd bOf
  rw [List.getD_eq_getElem?_getD, List.getElem?_map, Array.getElem?_toList, Array.getD_eq_getD_getElem?]
  cases s.data[j]? <;> rfl
theorem bt_bd (s : ByteArray) (j : Nat) : bt s (j : Int) = (bd s j : Int) := by
  unfold bt
  rw [Int.toNat_natCast]
  split
  · rename_i h
    rw [← bd_data, Array.getD_eq_getD_getElem?, Array.getElem?_eq_getElem (show j < s.data.size from h)]; rfl
  · rename_i h
    rw [← bd_data, Array.getD_eq_getD_getElem?, Array.getElem?_eq_none (by exact Nat.le_of_not_lt h)]; rfl
theorem bd_ext (s : ByteArray) (i j k : Nat) (h : k < j - i) : bd (s.extract i j) k = bd s (i + k) := by
  unfold bd
  rw [bOf_ext, List.getD_eq_getElem?_getD, List.getD_eq_getElem?_getD, List.getElem?_take, if_pos h, List.getElem?_drop]
/-- the j-th word -/
def wv (s : ByteArray) (j : Nat) : W32 := BitVec.ofNat 32 (bd s (4 * j) + 256 * bd s (4 * j + 1) + 65536 * bd s (4 * j + 2) + 16777216 * bd s (4 * j + 3))
theorem wv_un (s : ByteArray) (j : Nat) : un (wv s j) = ((bd s (4 * j) + 256 * bd s (4 * j + 1) + 65536 * bd s (4 * j + 2) + 16777216 * bd s (4 * j + 3) : Nat) : Int) := by
  have h0 := bd_lt s (4 * j)
  have h1 := bd_lt s (4 * j + 1)
  have h2 := bd_lt s (4 * j + 2)
  have h3 := bd_lt s (4 * j + 3)
  unfold wv un
  rw [BitVec.toNat_ofNat, Nat.mod_eq_of_lt (by omega)]
theorem sword_f (s : ByteArray) (i : Nat) (h : 4 * i + 4 ≤ s.size) : demurralref05_word.f (s.extract (4 * i) (4 * i + 4)) = some (un (wv s i)) := by
  have hz : (s.extract (4 * i) (4 * i + 4)).size = 4 := by rw [ByteArray.size_extract]; omega
  have e0 : bt (s.extract (4 * i) (4 * i + 4)) 0 = (bd s (4 * i) : Int) := by
    have := bt_bd (s.extract (4 * i) (4 * i + 4)) 0
    rw [bd_ext s _ _ _ (by omega)] at this; exact this
  have e1 : bt (s.extract (4 * i) (4 * i + 4)) 1 = (bd s (4 * i + 1) : Int) := by
    have := bt_bd (s.extract (4 * i) (4 * i + 4)) 1
    rw [bd_ext s _ _ _ (by omega)] at this; exact this
  have e2 : bt (s.extract (4 * i) (4 * i + 4)) 2 = (bd s (4 * i + 2) : Int) := by
    have := bt_bd (s.extract (4 * i) (4 * i + 4)) 2
    rw [bd_ext s _ _ _ (by omega)] at this; exact this
  have e3 : bt (s.extract (4 * i) (4 * i + 4)) 3 = (bd s (4 * i + 3) : Int) := by
    have := bt_bd (s.extract (4 * i) (4 * i + 4)) 3
    rw [bd_ext s _ _ _ (by omega)] at this; exact this
  have h0 := bd_lt s (4 * i)
  have h1 := bd_lt s (4 * i + 1)
  have h2 := bd_lt s (4 * i + 2)
  have h3 := bd_lt s (4 * i + 3)
  unfold demurralref05_word.f
  rw [hz, if_pos (by decide), if_pos (by decide), if_pos (by decide), if_pos (by decide), e0, e1, e2, e3, wv_un]
  refine congrArg some ?_
  omega
theorem or_sh (x : W32) (c : UInt8) (k : Nat) (hk : k ≤ 24) (hx : x.toNat < 2 ^ k) : (x ||| byW c <<< k).toNat = x.toNat + c.toNat * 2 ^ k := by
  have hc := c.toNat_lt
  have h2 : 2 ^ k ≤ 2 ^ 24 := Nat.pow_le_pow_right (by decide) hk
  have hb : (byW c).toNat = c.toNat := by unfold byW; rw [BitVec.toNat_ofNat, Nat.mod_eq_of_lt (by omega)]
  have hm : c.toNat * 2 ^ k < 4294967296 := Nat.lt_of_le_of_lt (Nat.mul_le_mul (Nat.le_of_lt_succ hc) h2) (by decide)
  rw [BitVec.toNat_or, BitVec.toNat_shiftLeft, hb, Nat.shiftLeft_eq, Nat.mod_eq_of_lt hm, Nat.or_comm, show c.toNat * 2 ^ k = c.toNat <<< k by rw [Nat.shiftLeft_eq], ← Nat.shiftLeft_add_eq_or_of_lt hx, Nat.add_comm]
theorem upd_upd (f : Nat → W32) (k : Nat) (x y : W32) : upd (upd f k x) k y = upd f k y := by
  funext i; unfold upd; by_cases h : i = k <;> simp [h]
theorem upd_at (f : Nat → W32) (k : Nat) (x : W32) : upd f k x k = x := by unfold upd; simp
theorem ldP_four (f : Nat → W32) (at_ : Nat) (s : ByteArray) (m : Nat) (h0 : ldP f at_ s (4 * m) (at_ + m) = 0#32) : ldP f at_ s (4 * (m + 1)) = upd (ldP f at_ s (4 * m)) (at_ + m) (wv s m) := by
  have st : ∀ r, r < 4 → ldP f at_ s (4 * m + r + 1) = upd (ldP f at_ s (4 * m + r)) (at_ + m) (ldP f at_ s (4 * m + r) (at_ + m) ||| byW (s.data.getD (4 * m + r) 0) <<< (8 * r)) := fun r hr => by
    show upd (ldP f at_ s (4 * m + r)) (at_ + (4 * m + r) / 4) (ldP f at_ s (4 * m + r) (at_ + (4 * m + r) / 4) ||| byW (s.data.getD (4 * m + r) 0) <<< (8 * ((4 * m + r) % 4))) = _
    rw [show (4 * m + r) / 4 = m by omega, show (4 * m + r) % 4 = r by omega]
  have h0' := bd_lt s (4 * m)
  have h1' := bd_lt s (4 * m + 1)
  have h2' := bd_lt s (4 * m + 2)
  have h3' := bd_lt s (4 * m + 3)
  have s0 := st 0 (by decide)
  have s1 := st 1 (by decide)
  have s2 := st 2 (by decide)
  have s3 := st 3 (by decide)
  simp only [Nat.add_zero] at s0
  rw [show 4 * (m + 1) = 4 * m + 3 + 1 by omega]
  rw [s0] at s1
  rw [upd_upd, upd_at, h0] at s1
  rw [s1] at s2
  rw [upd_upd, upd_at] at s2
  rw [s2] at s3
  rw [upd_upd, upd_at] at s3
  rw [s3]
  refine congrArg _ (BitVec.eq_of_toNat_eq ?_)
  have e0 : (0#32 ||| byW (s.data.getD (4 * m) 0) <<< (8 * 0)).toNat = bd s (4 * m) := by
    rw [or_sh _ _ _ (by decide) (by decide), bd_data]; show 0 + _ * 1 = _; omega
  have e1 : (0#32 ||| byW (s.data.getD (4 * m) 0) <<< (8 * 0) ||| byW (s.data.getD (4 * m + 1) 0) <<< (8 * 1)).toNat = bd s (4 * m) + 256 * bd s (4 * m + 1) := by
    rw [or_sh _ _ _ (by decide) (by rw [e0]; exact h0'), e0, bd_data]; show _ + _ * 256 = _; omega
  have e2 : (0#32 ||| byW (s.data.getD (4 * m) 0) <<< (8 * 0) ||| byW (s.data.getD (4 * m + 1) 0) <<< (8 * 1) ||| byW (s.data.getD (4 * m + 2) 0) <<< (8 * 2)).toNat = bd s (4 * m) + 256 * bd s (4 * m + 1) + 65536 * bd s (4 * m + 2) := by
    rw [or_sh _ _ _ (by decide) (by rw [e1]; show _ < 65536; omega), e1, bd_data]; show _ + _ * 65536 = _; omega
  rw [or_sh _ _ _ (by decide) (by rw [e2]; show _ < 16777216; omega), e2, bd_data]
  show _ + _ * 16777216 = _
  unfold wv
  rw [BitVec.toNat_ofNat, Nat.mod_eq_of_lt (by omega)]; omega
theorem ldP_all (f : Nat → W32) (at_ : Nat) (s : ByteArray) (n : Nat) (h0 : ∀ j, j < n → f (at_ + j) = 0#32) : ∀ m, m ≤ n → ∀ p, ldP f at_ s (4 * m) p = if at_ ≤ p ∧ p < at_ + m then wv s (p - at_) else f p
  | 0, _, p => by
    rw [if_neg (by omega)]; rfl
  | m + 1, hm, p => by
    have ih := ldP_all f at_ s n h0 m (by omega)
    have hz : ldP f at_ s (4 * m) (at_ + m) = 0#32 := by rw [ih, if_neg (by omega), h0 m (by omega)]
    rw [ldP_four f at_ s m hz]
    unfold upd
    by_cases hp : p = at_ + m
    · rw [if_pos hp, if_pos (by omega), hp, Nat.add_sub_cancel_left]
    · rw [if_neg hp, ih]
      by_cases hq : at_ ≤ p ∧ p < at_ + m
      · rw [if_pos hq, if_pos (by omega)]
      · rw [if_neg hq, if_neg (by omega)]
theorem fst_val (key nonce : ByteArray) (n : W32) (hk : key.size = 32) (hn : nonce.size = 12) (p : Nat) : fstF key n nonce p = if 13 ≤ p ∧ p < 16 then wv nonce (p - 13) else if p = 12 then n else if 4 ≤ p ∧ p < 12 then wv key (p - 4) else zeroF p := by
  have h1 := ldP_all zeroF 4 key 8 (fun j hj => by unfold zeroF; rw [if_neg (by omega), if_neg (by omega), if_neg (by omega), if_neg (by omega)]) 8 (Nat.le_refl _)
  have h2 := ldP_all (upd (ldP zeroF 4 key 32) 12 n) 13 nonce 3 (fun j hj => by
    unfold upd
    rw [if_neg (by omega), h1, if_neg (by omega)]
    unfold zeroF
    rw [if_neg (by omega), if_neg (by omega), if_neg (by omega), if_neg (by omega)]) 3 (Nat.le_refl _) p
  unfold fstF
  rw [hk, hn, h2]
  by_cases c1 : 13 ≤ p ∧ p < 16
  · rw [if_pos (by omega), if_pos c1]
  · rw [if_neg (by omega), if_neg c1]
    unfold upd
    by_cases c2 : p = 12
    · rw [if_pos c2, if_pos c2]
    · rw [if_neg c2, if_neg c2, h1]
theorem sw16_fst (key nonce : ByteArray) (n : W32) (hk : key.size = 32) (hn : nonce.size = 12) : sw16 (fstF key n nonce) = [1634760805, 857760878, 2036477234, 1797285236, un (wv key 0), un (wv key 1), un (wv key 2), un (wv key 3), un (wv key 4), un (wv key 5), un (wv key 6), un (wv key 7), un n, un (wv nonce 0), un (wv nonce 1), un (wv nonce 2)] := by
  have e : fstF key n nonce = fun p => if 13 ≤ p ∧ p < 16 then wv nonce (p - 13) else if p = 12 then n else if 4 ≤ p ∧ p < 12 then wv key (p - 4) else zeroF p := funext (fst_val key nonce n hk hn)
  rw [e]
  rfl
theorem first_l0 (k : Nat) (key x2 : ByteArray) (x1 : Int) (x7 : List Int) (i : Nat) (hi : i < 8) (hk : key.size = 32) (hl : x7.length < 100) :
    demurralref05_first.l0 (k + 1) key x1 x2 x7 (i : Int) = demurralref05_first.l0 k key x1 x2 (x7 ++ [un (wv key i)]) ((i + 1 : Nat) : Int) := by
  have w1 : wrap64 (4 * (i : Int)) = ((4 * i : Nat) : Int) := by unfold wrap64; omega
  have w2 : wrap64 (((4 * i : Nat) : Int) + 4) = ((4 * i + 4 : Nat) : Int) := by unfold wrap64; omega
  have w3 : wrap64 ((i : Int) + 1) = ((i + 1 : Nat) : Int) := by unfold wrap64; omega
  rw [demurralref05_first.l0, w1, w2, w3]
  rw [if_pos (by omega), if_pos (by omega), if_pos (by omega), if_pos (by omega), Int.toNat_natCast, Int.toNat_natCast, sword_f key i (by omega), Option.bind_some, if_pos (by omega)]
theorem first_l1 (k : Nat) (x2 : ByteArray) (x7 : List Int) (i : Nat) (hi : i < 3) (hk : x2.size = 12) (hl : x7.length < 100) :
    demurralref05_first.l1 (k + 1) x2 x7 (i : Int) = demurralref05_first.l1 k x2 (x7 ++ [un (wv x2 i)]) ((i + 1 : Nat) : Int) := by
  have w1 : wrap64 (4 * (i : Int)) = ((4 * i : Nat) : Int) := by unfold wrap64; omega
  have w2 : wrap64 (((4 * i : Nat) : Int) + 4) = ((4 * i + 4 : Nat) : Int) := by unfold wrap64; omega
  have w3 : wrap64 ((i : Int) + 1) = ((i + 1 : Nat) : Int) := by unfold wrap64; omega
  rw [demurralref05_first.l1, w1, w2, w3]
  rw [if_pos (by omega), if_pos (by omega), if_pos (by omega), if_pos (by omega), Int.toNat_natCast, Int.toNat_natCast, sword_f x2 i (by omega), Option.bind_some, if_pos (by omega)]
theorem first_f (k : Nat) (key nonce : ByteArray) (n : W32) (hk : key.size = 32) (hn : nonce.size = 12) : demurralref05_first.f (k + 13) key (un n) nonce = some (sw16 (fstF key n nonce)) := by
  rw [sw16_fst key nonce n hk hn]
  unfold demurralref05_first.f
  have h0 := first_l0 (k + 12) key nonce (un n) [1634760805, 857760878, 2036477234, 1797285236] 0 (by decide) hk (by decide)
  refine h0.trans ?_
  rw [first_l0 (k + 11) key nonce (un n) _ 1 (by decide) hk (by simp), first_l0 (k + 10) key nonce (un n) _ 2 (by decide) hk (by simp), first_l0 (k + 9) key nonce (un n) _ 3 (by decide) hk (by simp), first_l0 (k + 8) key nonce (un n) _ 4 (by decide) hk (by simp), first_l0 (k + 7) key nonce (un n) _ 5 (by decide) hk (by simp), first_l0 (k + 6) key nonce (un n) _ 6 (by decide) hk (by simp), first_l0 (k + 5) key nonce (un n) _ 7 (by decide) hk (by simp)]
  rw [demurralref05_first.l0, if_neg (by decide), if_pos (by simp)]
  refine (first_l1 (k + 3) nonce _ 0 (by decide) hn (by simp)).trans ?_
  rw [first_l1 (k + 2) nonce _ 1 (by decide) hn (by simp), first_l1 (k + 1) nonce _ 2 (by decide) hn (by simp)]
  rw [demurralref05_first.l1, if_neg (by decide)]
  rfl
theorem round_f (w : Nat → W32) : ((demurralref05_mix.f (sw16 w) 0 4 8 12).bind fun t328 => ((demurralref05_mix.f t328 1 5 9 13).bind fun t331 => ((demurralref05_mix.f t331 2 6 10 14).bind fun t334 => ((demurralref05_mix.f t334 3 7 11 15).bind fun t337 => ((demurralref05_mix.f t337 0 5 10 15).bind fun t340 => ((demurralref05_mix.f t340 1 6 11 12).bind fun t343 => ((demurralref05_mix.f t343 2 7 8 13).bind fun t346 => demurralref05_mix.f t346 3 4 9 14))))))) = some (sw16 (diaF (colF w 4) 4)) := by
  have m1 : ∀ f, demurralref05_mix.f (sw16 f) 0 4 8 12 = some (sw16 (cmx f 0 4 8 12)) := fun f => mix_f f 0 4 8 12 (by decide) (by decide) (by decide) (by decide)
  have m2 : ∀ f, demurralref05_mix.f (sw16 f) 1 5 9 13 = some (sw16 (cmx f 1 5 9 13)) := fun f => mix_f f 1 5 9 13 (by decide) (by decide) (by decide) (by decide)
  have m3 : ∀ f, demurralref05_mix.f (sw16 f) 2 6 10 14 = some (sw16 (cmx f 2 6 10 14)) := fun f => mix_f f 2 6 10 14 (by decide) (by decide) (by decide) (by decide)
  have m4 : ∀ f, demurralref05_mix.f (sw16 f) 3 7 11 15 = some (sw16 (cmx f 3 7 11 15)) := fun f => mix_f f 3 7 11 15 (by decide) (by decide) (by decide) (by decide)
  have m5 : ∀ f, demurralref05_mix.f (sw16 f) 0 5 10 15 = some (sw16 (cmx f 0 5 10 15)) := fun f => mix_f f 0 5 10 15 (by decide) (by decide) (by decide) (by decide)
  have m6 : ∀ f, demurralref05_mix.f (sw16 f) 1 6 11 12 = some (sw16 (cmx f 1 6 11 12)) := fun f => mix_f f 1 6 11 12 (by decide) (by decide) (by decide) (by decide)
  have m7 : ∀ f, demurralref05_mix.f (sw16 f) 2 7 8 13 = some (sw16 (cmx f 2 7 8 13)) := fun f => mix_f f 2 7 8 13 (by decide) (by decide) (by decide) (by decide)
  have m8 : ∀ f, demurralref05_mix.f (sw16 f) 3 4 9 14 = some (sw16 (cmx f 3 4 9 14)) := fun f => mix_f f 3 4 9 14 (by decide) (by decide) (by decide) (by decide)
  simp only [m1, m2, m3, m4, m5, m6, m7, m8, Option.bind_some]
  rfl
theorem bind_last {α β : Type} (a1 : Option α) (a2 a3 a4 a5 a6 a7 a8 : α → Option α) (F : α → Option β) :
    (a1.bind fun t1 => (a2 t1).bind fun t2 => (a3 t2).bind fun t3 => (a4 t3).bind fun t4 => (a5 t4).bind fun t5 => (a6 t5).bind fun t6 => (a7 t6).bind fun t7 => (a8 t7).bind F) = (a1.bind fun t1 => (a2 t1).bind fun t2 => (a3 t2).bind fun t3 => (a4 t3).bind fun t4 => (a5 t4).bind fun t5 => (a6 t5).bind fun t6 => (a7 t6).bind fun t7 => a8 t7).bind F := by
  simp only [Option.bind_assoc]
/-- a word's four bytes -/
theorem outs (f0 fw : Nat → W32) (i : Nat) : [(un (f0 i) + un (fw i)) % 256, (((un (f0 i) + un (fw i)) % 4294967296) / 256) % 256, (((un (f0 i) + un (fw i)) % 4294967296) / 65536) % 256, (((un (f0 i) + un (fw i)) % 4294967296) / 16777216)] = bI [outN f0 fw (4 * i), outN f0 fw (4 * i + 1), outN f0 fw (4 * i + 2), outN f0 fw (4 * i + 3)] := by
  have hc : (un (f0 i) + un (fw i)) % 4294967296 = un (fw i + f0 i) := by rw [Int.add_comm]; exact un_add _ _
  have h256 : (un (f0 i) + un (fw i)) % 256 = un (fw i + f0 i) % 256 := by rw [← hc]; omega
  have st : ∀ r, r < 4 → outN f0 fw (4 * i + r) = ((fw i + f0 i) >>> (8 * r)).toNat % 256 := fun r hr => by
    unfold outN
    rw [show (4 * i + r) / 4 = i by omega, show (4 * i + r) % 4 = r by omega]
  have hlt := (un_lt (fw i + f0 i)).2
  have s0 : outN f0 fw (4 * i) = ((fw i + f0 i) >>> (8 * 0)).toNat % 256 := st 0 (by decide)
  rw [h256, hc, s0, st 1 (by decide), st 2 (by decide), st 3 (by decide)]
  have q : ∀ r, (((fw i + f0 i) >>> (8 * r)).toNat : Int) = un (fw i + f0 i) / 2 ^ (8 * r) := fun r => (un_shr (fw i + f0 i) (8 * r)).symm
  have q0 : (((fw i + f0 i) >>> (8 * 0)).toNat : Int) = un (fw i + f0 i) / 1 := q 0
  have q1 : (((fw i + f0 i) >>> (8 * 1)).toNat : Int) = un (fw i + f0 i) / 256 := q 1
  have q2 : (((fw i + f0 i) >>> (8 * 2)).toNat : Int) = un (fw i + f0 i) / 65536 := q 2
  have q3 : (((fw i + f0 i) >>> (8 * 3)).toNat : Int) = un (fw i + f0 i) / 16777216 := q 3
  have hp := (un_lt (fw i + f0 i)).1
  generalize un (fw i + f0 i) = y at *
  generalize ((fw i + f0 i) >>> (8 * 0)).toNat = y0 at *
  generalize ((fw i + f0 i) >>> (8 * 1)).toNat = y1 at *
  generalize ((fw i + f0 i) >>> (8 * 2)).toNat = y2 at *
  generalize ((fw i + f0 i) >>> (8 * 3)).toNat = y3 at *
  unfold bI
  simp only [List.map_cons, List.map_nil, List.cons.injEq, and_true]
  refine ⟨by omega, by omega, by omega, by omega⟩
def oL (f0 fw : Nat → W32) (i : Nat) : List Int := bI ((List.range (4 * i)).map (outN f0 fw))
theorem oL_len (f0 fw : Nat → W32) (i : Nat) : (oL f0 fw i).length = 4 * i := by unfold oL; rw [bI_len, List.length_map, List.length_range]
theorem oL_succ (f0 fw : Nat → W32) (i : Nat) : oL f0 fw i ++ bI [outN f0 fw (4 * i), outN f0 fw (4 * i + 1), outN f0 fw (4 * i + 2), outN f0 fw (4 * i + 3)] = oL f0 fw (i + 1) := by
  unfold oL
  rw [show 4 * (i + 1) = 4 * i + 1 + 1 + 1 + 1 by omega, List.range_succ, List.range_succ, List.range_succ, List.range_succ]
  unfold bI
  simp
theorem Block_l1 (f0 fw : Nat → W32) (k : Nat) : ∀ m i, i + m = 16 → demurralref05_Block.l1 (k + m + 1) (sw16 fw) (oL f0 fw i) (sw16 f0) 16 (i : Int) = some (strOfNums (oL f0 fw 16))
  | 0, i, h => by
    obtain rfl : i = 16 := h
    rw [demurralref05_Block.l1, if_neg (by decide)]
  | m + 1, i, h => by
    have w3 : wrap64 ((i : Int) + 1) = ((i + 1 : Nat) : Int) := by unfold wrap64; omega
    rw [demurralref05_Block.l1, if_pos (by omega), if_pos (by omega), if_pos (by rw [sw16_len]; omega), if_pos (by rw [sw16_len]; omega), sw16_rd f0 i (by omega), sw16_rd fw i (by omega), outs, Option.bind_some, if_pos (by rw [oL_len]; unfold bI; simp; omega), oL_succ, w3]
    exact Block_l1 f0 fw k m (i + 1) (by omega)
theorem Block_l0 (key nonce : ByteArray) (n : W32) (hk : key.size = 32) (hn : nonce.size = 12) (k : Nat) : ∀ m t, t + m = 10 → demurralref05_Block.l0 (k + 17 + m + 1) key (un n) nonce (sw16 (rdsF (fstF key n nonce) t)) (t : Int) = some (blkS key n nonce)
  | 0, t, h => by
    obtain rfl : t = 10 := h
    have hf := first_f (k + 4) key nonce n hk hn
    rw [demurralref05_Block.l0, if_neg (by decide)]
    rw [show k + 17 + 0 = k + 4 + 13 from rfl, hf, Option.bind_some, sw16_len]
    exact Block_l1 (fstF key n nonce) (rdsF (fstF key n nonce) 10) k 16 0 rfl
  | m + 1, t, h => by
    have w3 : wrap64 ((t : Int) + 1) = ((t + 1 : Nat) : Int) := by unfold wrap64; omega
    rw [demurralref05_Block.l0, if_pos (by omega), bind_last, round_f, Option.bind_some, w3]
    exact Block_l0 key nonce n hk hn k m (t + 1) (by omega)
theorem Block_f (k : Nat) (key nonce : ByteArray) (n : W32) (hk : key.size = 32) (hn : nonce.size = 12) : demurralref05_Block.f (k + 28) key (un n) nonce = some (blkS key n nonce) := by
  unfold demurralref05_Block.f
  rw [show k + 28 = (k + 15) + 13 from rfl, first_f (k + 15) key nonce n hk hn, Option.bind_some]
  exact Block_l0 key nonce n hk hn k 10 0 rfl
theorem Stream_l0 (key nonce : ByteArray) (many : Nat) (hk : key.size = 32) (hn : nonce.size = 12) (hm : many ≤ 4096) (k : Nat) : ∀ r m, many ≤ 64 * (m + r) → 64 * m < many + 64 → demurralref05_Stream.l0 (k + 28 + r + 1) key nonce (many : Int) (sN key nonce m) ((m : Int) + 1) = some (stmF key nonce many)
  | 0, m, h1, h2 => by
    have hq : (many + 63) / 64 = m := by omega
    rw [demurralref05_Stream.l0, sN_size, if_neg (by omega), if_pos (by omega), if_pos (by omega), Int.toNat_natCast]
    unfold stmF
    rw [hq]
  | r + 1, m, h1, h2 => by
    by_cases hc : 64 * m < many
    · have hb := Block_f (k + r + 1) key nonce (BitVec.ofNat 32 (m + 1)) hk hn
      have hu : un (BitVec.ofNat 32 (m + 1)) = (m : Int) + 1 := by
        unfold un
        rw [BitVec.toNat_ofNat, Nat.mod_eq_of_lt (by omega)]; omega
      rw [hu] at hb
      rw [demurralref05_Stream.l0, sN_size, if_pos (by omega), show k + 28 + (r + 1) = k + r + 1 + 28 by omega, hb, Option.bind_some, blkS_size, if_pos (by omega), show ((m : Int) + 1 + 1) % 4294967296 = ((m + 1 : Nat) : Int) + 1 by omega, show k + r + 1 + 28 = k + 28 + r + 1 by omega]
      exact Stream_l0 key nonce many hk hn hm k r (m + 1) (by omega) (by omega)
    · have hq : (many + 63) / 64 = m := by omega
      rw [demurralref05_Stream.l0, sN_size, if_neg (by omega), if_pos (by omega), if_pos (by omega), Int.toNat_natCast]
      unfold stmF
      rw [hq]
theorem Stream_f (k : Nat) (key nonce : ByteArray) (many : Nat) (hk : key.size = 32) (hn : nonce.size = 12) (hm : many ≤ 4096) : demurralref05_Stream.f (k + 93) key nonce (many : Int) = some (stmF key nonce many) :=
  Stream_l0 key nonce many hk hn hm k 64 0 (by omega) (by omega)
def xL (L M : List Nat) (i : Nat) : List Int := bI ((List.range i).map (fun j => L.getD j 0 ^^^ M.getD j 0))
theorem xL_end (L M : List Nat) : xL L M L.length = bI (xorL L M) := by
  unfold xL xorL xz
  refine congrArg bI (List.map_congr_left fun j hj => ?_)
  rw [if_pos (List.mem_range.1 hj)]
theorem Xor_l0 (s y : ByteArray) (hy : y.size = s.size) (hs : s.size ≤ 4096) (k : Nat) : ∀ m i, i + m = s.size → demurralref05_Xor.l0 (k + m + 1) s y (xL (bOf s) (bOf y) i) (i : Int) = some (bStr (xorL (bOf s) (bOf y)))
  | 0, i, h => by
    obtain rfl : i = s.size := h
    have hl := bOf_len s
    rw [demurralref05_Xor.l0, if_neg (by omega)]
    have := xL_end (bOf s) (bOf y)
    rw [hl] at this
    rw [this]; rfl
  | m + 1, i, h => by
    have w3 : wrap64 ((i : Int) + 1) = ((i + 1 : Nat) : Int) := by unfold wrap64; omega
    have hx : xL (bOf s) (bOf y) i ++ [((bd s i ^^^ bd y i : Nat) : Int)] = xL (bOf s) (bOf y) (i + 1) := by
      unfold xL bI
      rw [List.range_succ, List.map_append, List.map_append]; rfl
    rw [demurralref05_Xor.l0, if_pos (by omega), if_pos (by omega), if_pos (by omega), if_pos (by unfold xL; rw [bI_len, List.length_map, List.length_range]; omega), bt_bd, bt_bd, xor8 _ _ (bd_lt s i) (bd_lt y i), hx, w3]
    exact Xor_l0 s y hy hs k m (i + 1) (by omega)
theorem Xor_f (k : Nat) (key nonce s : ByteArray) (hk : key.size = 32) (hn : nonce.size = 12) (hs : s.size ≤ 4096) : demurralref05_Xor.f (k + s.size + 93) key nonce s = some (xorF key nonce s) := by
  unfold demurralref05_Xor.f
  rw [Stream_f (k + s.size) key nonce s.size hk hn hs, Option.bind_some]
  have := Xor_l0 s (stmF key nonce s.size) (stmF_size _ _ _) hs (k + 92) s.size 0 (by omega)
  rw [show k + 92 + s.size + 1 = k + s.size + 93 by omega] at this
  exact this
/-- the document's: a text xor a stream -/
theorem RXor_any (key nonce s : ByteArray) (hk : key.size = 32) (hn : nonce.size = 12) (hs : s.size ≤ 4096) (w : World) :
    Calls Tryd.prog 32 #[.string key, .string nonce, .string s] w fun e w' => e = .returned (.string (xorF key nonce s)) ∧ Below w.heap.size w w' :=
  demurralref05_Xor.calls (0 + s.size + 93) key nonce s _ w (Xor_f 0 key nonce s hk hn hs)
end Go.Proofs.YtpbaolijacimjaaDoor

set_option linter.unusedSimpArgs false
/- LAYER 6: texts, locked. -/
namespace Go.Proofs.YtpbaolijacimjaaDoor
open Go.RowKit Go.Proofs.YtpbaolijacimjaaDoorW.PrintWords
theorem C_pl {w : World} {A : Option Addr} {n : Nat} {xs : List ByteArray} (h : Kd.string.C w A n xs) (h0 : 0 < n) : ∃ bk of, A = some ⟨bk, of, none⟩ ∧ (∀ (j : Nat) x, xs[j]? = some x → w.cell? ⟨bk, of + j, none⟩ = some (.string x)) ∧ bk < w.heap.size := by
  obtain ⟨ad, hA, hc⟩ := h.2.2 h0
  have hcell : ∀ (j : Nat) x, xs[j]? = some x → w.cell? (ad.add j) = some (.string x) := fun j x hx => by
    obtain ⟨cs, hs, hk, hh⟩ := hc j x hx
    have hk : cs = [.string x] := hk
    subst hk
    have := hh 0 _ rfl
    rw [show j * Kd.string.sz + 0 = j by show j * 1 + 0 = j; omega] at this
    exact this
  obtain ⟨x, hx⟩ : ∃ x, xs[0]? = some x := ⟨_, List.getElem?_eq_getElem (by have := h.1; omega)⟩
  have h1 := hcell 0 x hx
  have ha : ad.add 0 = ad := by unfold Addr.add; simp
  rw [ha] at h1
  have hsp : ad.spot = none ∧ ad.block < w.heap.size := by
    unfold World.cell? at h1
    split at h1
    · rename_i hb
      split at h1
      · cases h1
      · rename_i hs
        refine ⟨by cases hq : ad.spot with | none => rfl | some _ => simp [hq] at hs, (Array.getElem?_eq_some_iff.1 hb).1⟩
    · cases h1
  obtain ⟨bk, of, sp⟩ := ad
  obtain rfl : sp = none := hsp.1
  refine ⟨bk, of, hA, fun j x hx => ?_, hsp.2⟩
  have := hcell j x hx
  rw [Addr.add_mid] at this
  exact this
def lockW : ByteArray := ⟨#[108, 111, 99, 107]⟩
/-- the i-th of the keys that a message's key is split to -/
def kxF (key : ByteArray) (i : Nat) : ByteArray := (expF key lockW 96).extract (32 * i) (32 * i + 32)
theorem kxF_size (key : ByteArray) (i : Nat) (h : i < 3) : (kxF key i).size = 32 := by
  unfold kxF
  rw [ByteArray.size_extract, expF_size]; omega
theorem spl_three (key : ByteArray) : splF key lockW 3 = [kxF key 0, kxF key 1, kxF key 2] := rfl
def kHF (key : ByteArray) : ByteArray := kxF key 0
def kTF (key : ByteArray) : ByteArray := kxF key 1
def kNF (key : ByteArray) : ByteArray := (kxF key 2).extract 0 12
theorem kHF_size (key : ByteArray) : (kHF key).size = 32 := kxF_size _ _ (by decide)
theorem kTF_size (key : ByteArray) : (kTF key).size = 32 := kxF_size _ _ (by decide)
theorem kNF_size (key : ByteArray) : (kNF key).size = 12 := by
  unfold kNF; rw [ByteArray.size_extract, kxF_size _ _ (by decide)]; rfl
/-- a head's length -/
def hdF (n : Nat) : ByteArray := ⟨[UInt8.ofNat (n / 256), UInt8.ofNat (n % 256)].toArray⟩
theorem hdF_size (n : Nat) : (hdF n).size = 2 := rfl
/-- bytes, with their tag behind them -/
def tagB (t head bytes : ByteArray) : ByteArray := bytes ++ tagF t (hdF head.size ++ head ++ bytes)
theorem tagB_size (t head bytes : ByteArray) : (tagB t head bytes).size = bytes.size + 32 := by
  unfold tagB; rw [ByteArray.size_append, tagF_size]
def lockF (key head text : ByteArray) : ByteArray := tagB (kTF key) head (xorF (kHF key) (kNF key) text)
theorem conv_lit2 {P : Program} {src dst e : TypeId} (hs : P.underlying src = some (.slice e)) (he : P.underlying e = some (.int .u8)) (hd : P.underlying dst = some .string) (W : World) (x y : Int) :
    (convert src dst (.slice (some ⟨W.heap.size, 0, none⟩) 2 2)).run P (W.alloc (.cells #[.int .u8 x, .int .u8 y] e)) = .ok (.string ⟨[UInt8.ofNat x.toNat, UInt8.ofNat y.toNat].toArray⟩) (W.alloc (.cells #[.int .u8 x, .int .u8 y] e)) :=
  own_string hs he hd (Kd.own_of_R (h1 := fun _ => rfl) (ok := fun _ => True) (R_new_lit W W.heap.size e [x, y] (Nat.le_refl _) (by simp)))
attribute [local irreducible] Calls mixF
set_option maxHeartbeats 4000000 in
set_option maxRecDepth 100000 in
theorem of_lock (key : ByteArray) (w : World) (hs : key.size ≤ 100000) (hK : KeysAt w) :
    Calls Tryd.prog 28 #[.string key] w fun e w' => e = .returned (.agg #[.string (kHF key), .string (kTF key), .string (kNF key)]) ∧ Below w.heap.size w w' := by
  have HS := Lib.hid (fun w1 (hg : Gr w w1) => Split_yes key lockW 3 w1 (by decide) hs (by decide) (hK.up hg))
  rw [spl_three] at HS
  have HN := Lib.hid (show kNF key = (kxF key 2).extract 0 12 from rfl)
  have hz := kxF_size key 2 (by decide)
  rw [show kHF key = kxF key 0 from rfl, show kTF key = kxF key 1 from rfl]
  clear hK
  generalize kNF key = n at *
  generalize kxF key 0 = x at *
  generalize kxF key 1 = y at *
  generalize kxF key 2 = z at *
  unfold lockW at HS
  have HO := (Own.start w).alloc' (.cells #[.string ⟨#[]⟩, .string ⟨#[]⟩, .string ⟨#[]⟩] 60) rfl
  go_enter Tryd.func28, Tryd.ntmps28
  go_wp2_with fail
  refine (HS.out _ HO.below).mono ?_
  rintro e w1 ⟨⟨A, c, rfl, hc, hC⟩, hb⟩
  replace HO := HO.up hb
  obtain ⟨bk, of, rfl, hcell, _⟩ := C_pl hC (by decide)
  have c0 : w1.cell? ⟨bk, of, none⟩ = some (.string x) := hcell 0 x rfl
  have c1 := hcell 1 y rfl
  have c2 := hcell 2 z rfl
  have hz12 : (12 : Int) ≤ (z.size : Int) := by omega
  clear hb hC HS hcell
  go_wp2_with fail
  refine bstart (fun _ => w.heap.size) (n := 12) (ds := [11]) #[false, false, false, false, false, false, false, false, false, false, false, false] (by kernel_rfl) rfl rfl HO.below.size (fun HBS => ?_)
  refine bseq (m := 1) (.inl rfl) [(0, true, some 10), (1, true, some 11), (3, true, some 13), (4, true, some 14), (6, true, some 16), (7, true, some 17), (2, false, some 12), (5, false, some 15), (8, false, some 18), (9, true, some 19), (10, true, some 20)] #[true, true, true, true, true, true, true, true, true, true, true, false] HBS (by kernel_rfl) rfl (fun _ _ _ _ _ h => h) ?_
  (refine sP (v := ?_) (a' := ?_) rfl rfl (by rfl) ?_ ?_ ?_; rotate_left 2; (· intro w'; go_simp; with_reducible rfl); (· simp only [Act.put, List.setIfInBounds_toArray, List.set_cons_zero, List.set_cons_succ, kw64, kw32]; rfl))
  (refine sP (v := ?_) (a' := ?_) rfl rfl (by rfl) ?_ ?_ ?_; rotate_left 2; (· intro w'; go_simp; with_reducible rfl); (· simp only [Act.put, List.setIfInBounds_toArray, List.set_cons_zero, List.set_cons_succ, kw64, kw32]; rfl))
  (refine sP (v := ?_) (a' := ?_) rfl rfl (by rfl) ?_ ?_ ?_; rotate_left 2; (· intro w'; go_simp; with_reducible rfl); (· simp only [Act.put, List.setIfInBounds_toArray, List.set_cons_zero, List.set_cons_succ, kw64, kw32]; rfl))
  (refine sP (v := ?_) (a' := ?_) rfl rfl (by rfl) ?_ ?_ ?_; rotate_left 2; (· intro w'; go_simp; with_reducible rfl); (· simp only [Act.put, List.setIfInBounds_toArray, List.set_cons_zero, List.set_cons_succ, kw64, kw32]; rfl))
  (refine sP (v := ?_) (a' := ?_) rfl rfl (by rfl) ?_ ?_ ?_; rotate_left 2; (· intro w'; go_simp; with_reducible rfl); (· simp only [Act.put, List.setIfInBounds_toArray, List.set_cons_zero, List.set_cons_succ, kw64, kw32]; rfl))
  (refine sP (v := ?_) (a' := ?_) rfl rfl (by rfl) ?_ ?_ ?_; rotate_left 2; (· intro w'; go_simp; with_reducible rfl); (· simp only [Act.put, List.setIfInBounds_toArray, List.set_cons_zero, List.set_cons_succ, kw64, kw32]; rfl))
  (refine sL (v := ?_) (a' := ?_) rfl rfl (by rfl) ?_ ?_ ?_; rotate_left 2; (· intro w1 hg; have h1 := pw_cell_below hg c0; have h2 := pw_cell_below hg c1; have h3 := pw_cell_below hg c2; go_simp; with_reducible rfl); (· simp only [Act.put, List.setIfInBounds_toArray, List.set_cons_zero, List.set_cons_succ, kw64, kw32]; rfl))
  (refine sL (v := ?_) (a' := ?_) rfl rfl (by rfl) ?_ ?_ ?_; rotate_left 2; (· intro w1 hg; have h1 := pw_cell_below hg c0; have h2 := pw_cell_below hg c1; have h3 := pw_cell_below hg c2; go_simp; with_reducible rfl); (· simp only [Act.put, List.setIfInBounds_toArray, List.set_cons_zero, List.set_cons_succ, kw64, kw32]; rfl))
  (refine sL (v := ?_) (a' := ?_) rfl rfl (by rfl) ?_ ?_ ?_; rotate_left 2; (· intro w1 hg; have h1 := pw_cell_below hg c0; have h2 := pw_cell_below hg c1; have h3 := pw_cell_below hg c2; go_simp; with_reducible rfl); (· simp only [Act.put, List.setIfInBounds_toArray, List.set_cons_zero, List.set_cons_succ, kw64, kw32]; rfl))
  (refine sP (v := .string n) (a' := ?_) rfl rfl (by rfl) ?_ ?_ ?_; rotate_left 1; (· intro w'; go_simp; rw [HN.out]); (· simp only [Act.put, List.setIfInBounds_toArray, List.set_cons_zero, List.set_cons_succ, kw64, kw32]; rfl))
  (refine sP (v := ?_) (a' := ?_) rfl rfl (by rfl) ?_ ?_ ?_; rotate_left 2; (· intro w'; go_simp; with_reducible rfl); (· simp only [Act.put, List.setIfInBounds_toArray, List.set_cons_zero, List.set_cons_succ, kw64, kw32]; rfl))
  refine bone (i := 11) (N := none) #[true, true, true, true, true, true, true, true, true, true, true, true] rfl rfl (by kernel_rfl) HBS (fun w1 hg K hK => ?_)
  rw [if_pos (by rfl)]
  replace HO := HO.up hg
  have cS := HO.cell 0 rfl
  have fS := HO.frozen 0 rfl
  go_simp
  refine hK _ _ (in_ds (by decide) ((bel_set (by omega)).trans ((bel_set (by omega)).trans (bel_set (by omega))))) (fun HBS => ?_)
  replace HO := HO.set' 0 rfl 0 (.string x) (L' := [(w.heap.size, .cells #[(.string x), (.string ⟨#[]⟩), (.string ⟨#[]⟩)] 60 (0, 0))]) rfl
  replace HO := HO.set' 0 rfl 1 (.string y) (L' := [(w.heap.size, .cells #[(.string x), (.string y), (.string ⟨#[]⟩)] 60 (0, 0))]) rfl
  replace HO := HO.set' 0 rfl 2 (.string n) (L' := [(w.heap.size, .cells #[(.string x), (.string y), (.string n)] 60 (0, 0))]) rfl
  clear cS fS hg K hK
  revert HO HBS
  generalize World.setCell (World.setCell (World.setCell _ _ _) _ _) _ _ = wb
  intro HBS HO
  refine bdone (by kernel_rfl) (fun w1 hg => ?_)
  replace HO := HO.up hg
  clear hg
  go_wp2
  exact bodyPost_ret (v := .agg #[.string x, .string y, .string n]) (results_cell_row Tryd.results28 _ _ w.heap.size 60 _ (0, 0) _ (by rfl) (HO.blk 0 rfl) Tryd.underlying60 rfl (by kernel_rfl)) rfl ⟨rfl, HO.below⟩
set_option maxHeartbeats 4000000 in
set_option maxRecDepth 100000 in
theorem tagged_any (h t n head bytes : ByteArray) (w : World) (ht : t.size ≤ 100000) (hh : head.size ≤ 1024) (hb : bytes.size ≤ 2000) (hK : KeysAt w) :
    Calls Tryd.prog 30 #[.agg #[.string h, .string t, .string n, .string head], .string bytes] w fun e w' => e = .returned (.string (tagB t head bytes)) ∧ Below w.heap.size w w' := by
  have HT := Lib.hid (fun w1 (hg : Gr w w1) => Tag_any t (hdF head.size ++ head ++ bytes) w1 ht (by rw [ByteArray.size_append, ByteArray.size_append, hdF_size]; omega) (hK.up hg))
  have HB := Lib.hid (show tagB t head bytes = bytes ++ tagF t (hdF head.size ++ head ++ bytes) from rfl)
  have htz := tagF_size t (hdF head.size ++ head ++ bytes)
  have HO := (Own.start w).alloc' (.cells #[.string h, .string t, .string n, .string head] 63) rfl
  have hcv := conv_lit2 Tryd.underlying42 Tryd.underlying5 Tryd.underlying9 (w.alloc (.cells #[.string h, .string t, .string n, .string head] 63)) ((head.size : Int) / 256) ((head.size : Int) % 256)
  rw [show (⟨[UInt8.ofNat ((head.size : Int) / 256).toNat, UInt8.ofNat ((head.size : Int) % 256).toNat].toArray⟩ : ByteArray) = hdF head.size by
    unfold hdF
    rw [show ((head.size : Int) / 256).toNat = head.size / 256 by omega, show ((head.size : Int) % 256).toNat = head.size % 256 by omega]] at hcv
  have c1 : ¬ ((hdF head.size).size + head.size > 9223372036854775807) := by rw [hdF_size]; omega
  have c2 : ¬ ((hdF head.size ++ head).size + bytes.size > 9223372036854775807) := by rw [ByteArray.size_append, hdF_size]; omega
  have c3 : ¬ (bytes.size + (tagF t (hdF head.size ++ head ++ bytes)).size > 9223372036854775807) := by rw [htz]; omega
  have hq : (head.size : Int) / 256 % 256 = (head.size : Int) / 256 := by omega
  clear htz hK hb
  generalize tagF t (hdF head.size ++ head ++ bytes) = tg at *
  generalize hdF head.size = hd at *
  go_enter Tryd.func30, Tryd.ntmps30
  have f1 := HO.cell 0 rfl 1
  have f3 := HO.cell 0 rfl 3
  rw [show (w.alloc (.cells #[.string h, .string t, .string n, .string head] 63)).heap.size = w.heap.size + 1 by simp] at hcv
  go_wp2_with fail
  clear hcv f1 f3
  refine (HT.out _ (below_alloc HO.below _)).mono ?_
  rintro e w1 ⟨rfl, hb⟩
  have HBB := Lib.hid (below_step (below_alloc HO.below _) hb)
  clear hb HO
  go_wp2
  go_ret
  exact ⟨by rw [HB.out]; rfl, HBB.out⟩
set_option maxHeartbeats 4000000 in
set_option maxRecDepth 100000 in
theorem turned_any (h t n head s : ByteArray) (w : World) (hh : h.size = 32) (hn : n.size = 12) (hs : s.size ≤ 4096) :
    Calls Tryd.prog 31 #[.agg #[.string h, .string t, .string n, .string head], .string s] w fun e w' => e = .returned (.string (xorF h n s)) ∧ Below w.heap.size w w' := by
  have HX := Lib.hid (fun w1 => Xor_yes h n s hh hn hs w1)
  have HO := (Own.start w).alloc' (.cells #[.string h, .string t, .string n, .string head] 63) rfl
  clear hh hn hs
  generalize xorF h n s = x at *
  go_enter Tryd.func31, Tryd.ntmps31
  have f0 := HO.cell 0 rfl 0
  have f2 := HO.cell 0 rfl 2
  go_wp2_with fail
  clear f0 f2
  refine (HX.out _).mono ?_
  rintro e w1 ⟨rfl, hb⟩
  have HBB := Lib.hid (below_step HO.below hb)
  clear hb HO
  go_wp2
  go_ret
  exact ⟨rfl, HBB.out⟩
/-- may a key, a head and so many bytes be? -/
def mayL (key head : ByteArray) (n : Int) : Bool := key.size == 32 && decide (head.size ≤ 1024) && decide (0 ≤ n) && decide (n ≤ 1024)
theorem mayL_iff (key head : ByteArray) (n : Int) : mayL key head n = true ↔ key.size = 32 ∧ head.size ≤ 1024 ∧ 0 ≤ n ∧ n ≤ 1024 := by
  unfold mayL
  simp only [Bool.and_eq_true, decide_eq_true_eq, beq_iff_eq, and_assoc]
set_option maxHeartbeats 4000000 in
set_option maxRecDepth 100000 in
theorem may_lock (key head : ByteArray) (n : Int) (w : World) :
    Calls Tryd.prog 27 #[.string key, .string head, .int .i64 n] w fun e w' => e = .returned (.int .i64 (if mayL key head n then 0 else 2)) ∧ Below w.heap.size w w' := by
  by_cases h1 : key.size = 32
  · have e1 : (key.size : Int) = 32 := by omega
    by_cases h2 : head.size ≤ 1024
    · have e2 : ¬ ((head.size : Int) > 1024) := by omega
      by_cases h3 : 0 ≤ n
      · have e3 : ¬ (n < 0) := by omega
        by_cases h4 : n ≤ 1024
        · have e4 : ¬ (n > 1024) := by omega
          rw [if_pos ((mayL_iff _ _ _).2 ⟨h1, h2, h3, h4⟩)]
          clear h1 h2 h3 h4
          go_enter Tryd.func27, Tryd.ntmps27
          go_wp2
          go_ret
          exact ⟨rfl, Below.refl _ _⟩
        · have e4 : n > 1024 := by omega
          rw [if_neg (fun h => h4 ((mayL_iff _ _ _).1 h).2.2.2)]
          clear h1 h2 h3 h4
          go_enter Tryd.func27, Tryd.ntmps27
          go_wp2
          go_ret
          exact ⟨rfl, Below.refl _ _⟩
      · have e3 : n < 0 := by omega
        rw [if_neg (fun h => h3 ((mayL_iff _ _ _).1 h).2.2.1)]
        clear h1 h2 h3
        go_enter Tryd.func27, Tryd.ntmps27
        go_wp2
        go_ret
        exact ⟨rfl, Below.refl _ _⟩
    · have e2 : (head.size : Int) > 1024 := by omega
      rw [if_neg (fun h => h2 ((mayL_iff _ _ _).1 h).2.1)]
      clear h1 h2
      go_enter Tryd.func27, Tryd.ntmps27
      go_wp2
      go_ret
      exact ⟨rfl, Below.refl _ _⟩
  · have e1 : ¬ ((key.size : Int) = 32) := by omega
    rw [if_neg (fun h => h1 ((mayL_iff _ _ _).1 h).1)]
    clear h1
    go_enter Tryd.func27, Tryd.ntmps27
    go_wp2
    go_ret
    exact ⟨rfl, Below.refl _ _⟩
end Go.Proofs.YtpbaolijacimjaaDoor

set_option linter.unusedSimpArgs false
/- LAYER 6: keys, texts locked and opened. -/
namespace Go.Proofs.YtpbaolijacimjaaDoor
open Go.RowKit Go.Proofs.YtpbaolijacimjaaDoorW.PrintWords
attribute [local irreducible] Calls mixF
set_option maxHeartbeats 4000000 in
theorem Keys_no (key : ByteArray) (w : World) (hm : mayL key ⟨#[]⟩ 0 = false) :
    Calls Tryd.prog 13 #[.string key] w fun e w' => e = .returned (.tuple #[.string ⟨#[]⟩, .string ⟨#[]⟩, .string ⟨#[]⟩, .int .i64 2]) ∧ Below w.heap.size w w' := by
  have HM := Lib.hid (fun w1 => may_lock key ⟨#[]⟩ 0 w1)
  rw [hm, if_neg (by decide)] at HM
  clear hm
  go_enter Tryd.func13, Tryd.ntmps13
  go_wp2_with fail
  refine (HM.out _).mono ?_
  rintro e w1 ⟨rfl, hb⟩
  go_wp2
  exact bodyPost_ret (v := .tuple #[.string ⟨#[]⟩, .string ⟨#[]⟩, .string ⟨#[]⟩, .int .i64 2]) (by simp [results, Tryd.results13, go_sem]) rfl ⟨rfl, hb⟩
set_option maxHeartbeats 4000000 in
set_option maxRecDepth 100000 in
theorem Keys_yes (key : ByteArray) (w : World) (hs : key.size = 32) (hK : KeysAt w) :
    Calls Tryd.prog 13 #[.string key] w fun e w' => e = .returned (.tuple #[.string (kHF key), .string (kTF key), .string (kNF key), .int .i64 0]) ∧ Below w.heap.size w w' := by
  have HM := Lib.hid (fun w1 => may_lock key ⟨#[]⟩ 0 w1)
  rw [(mayL_iff key ⟨#[]⟩ 0).2 ⟨hs, by decide, by omega, by omega⟩, if_pos rfl] at HM
  have HF := Lib.hid (fun w1 (hg : Gr w w1) => of_lock key w1 (by omega) (hK.up hg))
  have HO := Own.start w
  clear hs hK
  generalize kHF key = kh at *
  generalize kTF key = kt at *
  generalize kNF key = kn at *
  go_enter Tryd.func13, Tryd.ntmps13
  go_wp2_with fail
  refine (HM.out _).mono ?_
  rintro e w1 ⟨rfl, hb⟩
  replace HO := HO.up hb
  clear hb
  go_wp2_with fail
  refine (HF.out _ HO.below).mono ?_
  rintro e w2 ⟨rfl, hb⟩
  replace HO := HO.up hb
  clear hb
  replace HO := HO.alloc' (.cells #[.string kh, .string kt, .string kn] 60) rfl
  go_wp2_with fail
  revert HO
  generalize World.alloc w2 _ = wb
  generalize w2.heap.size = gb
  intro HO
  refine kall [(0, true, some 15), (2, true, some 17), (4, true, some 19), (1, true, some 16), (6, true, some 2), (3, true, some 18), (7, true, some 3), (5, true, some 20), (8, true, some 4), (9, true, some 5)] (by kernel_rfl) rfl (by kernel_rfl) rfl (fun _ _ _ _ _ h => h) ?_
  (refine sP (v := ?_) (a' := ?_) rfl rfl (by rfl) ?_ ?_ ?_; rotate_left 2; (· intro w'; go_simp; with_reducible rfl); (· simp only [Act.put, List.setIfInBounds_toArray, List.set_cons_zero, List.set_cons_succ, kw64, kw32]; rfl))
  (refine sP (v := ?_) (a' := ?_) rfl rfl (by rfl) ?_ ?_ ?_; rotate_left 2; (· intro w'; go_simp; with_reducible rfl); (· simp only [Act.put, List.setIfInBounds_toArray, List.set_cons_zero, List.set_cons_succ, kw64, kw32]; rfl))
  (refine sP (v := ?_) (a' := ?_) rfl rfl (by rfl) ?_ ?_ ?_; rotate_left 2; (· intro w'; go_simp; with_reducible rfl); (· simp only [Act.put, List.setIfInBounds_toArray, List.set_cons_zero, List.set_cons_succ, kw64, kw32]; rfl))
  (refine sB (v := ?_) (a' := ?_) rfl rfl (by rfl) ?_ ?_ ?_; rotate_left 2; (· intro w1 hg; have cS := (HO.up hg).cell 0 rfl; go_simp; with_reducible rfl); (· simp only [Act.put, List.setIfInBounds_toArray, List.set_cons_zero, List.set_cons_succ, kw64, kw32]; rfl))
  (refine sP (v := ?_) (a' := ?_) rfl rfl (by rfl) ?_ ?_ ?_; rotate_left 2; (· intro w'; go_simp; with_reducible rfl); (· simp only [Act.put, List.setIfInBounds_toArray, List.set_cons_zero, List.set_cons_succ, kw64, kw32]; rfl))
  (refine sB (v := ?_) (a' := ?_) rfl rfl (by rfl) ?_ ?_ ?_; rotate_left 2; (· intro w1 hg; have cS := (HO.up hg).cell 0 rfl; go_simp; with_reducible rfl); (· simp only [Act.put, List.setIfInBounds_toArray, List.set_cons_zero, List.set_cons_succ, kw64, kw32]; rfl))
  (refine sP (v := ?_) (a' := ?_) rfl rfl (by rfl) ?_ ?_ ?_; rotate_left 2; (· intro w'; go_simp; with_reducible rfl); (· simp only [Act.put, List.setIfInBounds_toArray, List.set_cons_zero, List.set_cons_succ, kw64, kw32]; rfl))
  (refine sB (v := ?_) (a' := ?_) rfl rfl (by rfl) ?_ ?_ ?_; rotate_left 2; (· intro w1 hg; have cS := (HO.up hg).cell 0 rfl; go_simp; with_reducible rfl); (· simp only [Act.put, List.setIfInBounds_toArray, List.set_cons_zero, List.set_cons_succ, kw64, kw32]; rfl))
  (refine sP (v := ?_) (a' := ?_) rfl rfl (by rfl) ?_ ?_ ?_; rotate_left 2; (· intro w'; go_simp; with_reducible rfl); (· simp only [Act.put, List.setIfInBounds_toArray, List.set_cons_zero, List.set_cons_succ, kw64, kw32]; rfl))
  (refine sP (v := ?_) (a' := ?_) rfl rfl (by rfl) ?_ ?_ ?_; rotate_left 2; (· intro w'; go_simp; with_reducible rfl); (· simp only [Act.put, List.setIfInBounds_toArray, List.set_cons_zero, List.set_cons_succ, kw64, kw32]; rfl))
  intro w1 hg
  replace HO := HO.up hg
  clear hg
  go_wp2
  exact bodyPost_ret (v := .tuple #[.string kh, .string kt, .string kn, .int .i64 0]) (by simp [results, Tryd.results13, go_sem]) rfl ⟨rfl, HO.below⟩
set_option maxHeartbeats 4000000 in
theorem Lock_no (key head text : ByteArray) (w : World) (hm : mayL key head (text.size : Int) = false) :
    Calls Tryd.prog 14 #[.string key, .string head, .string text] w fun e w' => e = .returned (.tuple #[.string ⟨#[]⟩, .int .i64 2]) ∧ Below w.heap.size w w' := by
  have HM := Lib.hid (fun w1 => may_lock key head (text.size : Int) w1)
  rw [hm, if_neg (by decide)] at HM
  clear hm
  go_enter Tryd.func14, Tryd.ntmps14
  go_wp2_with fail
  refine (HM.out _).mono ?_
  rintro e w1 ⟨rfl, hb⟩
  go_wp2
  go_ret2
  exact ⟨rfl, hb⟩
set_option maxHeartbeats 4000000 in
set_option maxRecDepth 100000 in
theorem Lock_yes (key head text : ByteArray) (w : World) (hm : mayL key head (text.size : Int) = true) (hK : KeysAt w) :
    Calls Tryd.prog 14 #[.string key, .string head, .string text] w fun e w' => e = .returned (.tuple #[.string (lockF key head text), .int .i64 0]) ∧ Below w.heap.size w w' := by
  have HM := Lib.hid (fun w1 => may_lock key head (text.size : Int) w1)
  obtain ⟨h1, h2, h3, h4⟩ := (mayL_iff _ _ _).1 hm
  rw [hm, if_pos rfl] at HM
  have HF := Lib.hid (fun w1 (hg : Gr w w1) => of_lock key w1 (by omega) (hK.up hg))
  have HT := Lib.hid (fun w1 => turned_any (kHF key) (kTF key) (kNF key) head text w1 (kHF_size key) (kNF_size key) (by omega))
  have HG := Lib.hid (fun w1 (hg : Gr w w1) => tagged_any (kHF key) (kTF key) (kNF key) head (xorF (kHF key) (kNF key) text) w1 (by rw [kTF_size]; omega) h2 (by rw [xorF_size]; omega) (hK.up hg))
  rw [show tagB (kTF key) head (xorF (kHF key) (kNF key) text) = lockF key head text from rfl] at HG
  have HO := Own.start w
  clear hm h1 h2 h3 h4 hK
  generalize lockF key head text = lk at *
  generalize xorF (kHF key) (kNF key) text = xt at *
  generalize kHF key = kh at *
  generalize kTF key = kt at *
  generalize kNF key = kn at *
  go_enter Tryd.func14, Tryd.ntmps14
  go_wp2_with fail
  refine (HM.out _).mono ?_
  rintro e w1 ⟨rfl, hb⟩
  replace HO := HO.up hb
  clear hb
  go_wp2_with fail
  refine (HF.out _ HO.below).mono ?_
  rintro e w2 ⟨rfl, hb⟩
  replace HO := HO.up hb
  clear hb
  replace HO := HO.alloc' (.cells #[.string kh, .string kt, .string kn, .string head] 63) rfl
  go_wp2_with fail
  revert HO
  generalize World.alloc w2 _ = wb
  generalize w2.heap.size = gb
  intro HO
  refine kall [(2, true, some 24), (0, true, some 22), (1, true, some 23), (3, true, some 25), (4, true, some 26), (5, true, some 6), (6, true, some 7)] (by kernel_rfl) rfl (by kernel_rfl) rfl (fun _ _ _ _ _ h => h) ?_
  (refine sP (v := ?_) (a' := ?_) rfl rfl (by rfl) ?_ ?_ ?_; rotate_left 2; (· intro w'; go_simp; with_reducible rfl); (· simp only [Act.put, List.setIfInBounds_toArray, List.set_cons_zero, List.set_cons_succ, kw64, kw32]; rfl))
  (refine sB (v := ?_) (a' := ?_) rfl rfl (by rfl) ?_ ?_ ?_; rotate_left 2; (· intro w1 hg; (refine Eq.trans (run_load_row 63 (.tmp 9) rfl gb (by rfl) _ #[.string kh, .string kt, .string kn, .string head] _ _ ((HO.up hg).blk 0 rfl) Tryd.underlying63 rfl (by kernel_rfl)) ?_; with_reducible rfl)); (· simp only [Act.put, List.setIfInBounds_toArray, List.set_cons_zero, List.set_cons_succ, kw64, kw32]; rfl))
  (refine sB (v := ?_) (a' := ?_) rfl rfl (by rfl) ?_ ?_ ?_; rotate_left 2; (· intro w1 hg; (refine Eq.trans (run_load_row 63 (.tmp 9) rfl gb (by rfl) _ #[.string kh, .string kt, .string kn, .string head] _ _ ((HO.up hg).blk 0 rfl) Tryd.underlying63 rfl (by kernel_rfl)) ?_; with_reducible rfl)); (· simp only [Act.put, List.setIfInBounds_toArray, List.set_cons_zero, List.set_cons_succ, kw64, kw32]; rfl))
  (refine sD (v := ?_) (a' := ?_) Tryd.func31 rfl rfl (by rfl) rfl (by kernel_rfl) rfl (by rfl) ?_ ?_ ?_; rotate_left 2; (· intro w1 hg; exact HT.out w1); (· simp only [Act.put, List.setIfInBounds_toArray, List.set_cons_zero, List.set_cons_succ, kw64, kw32]; rfl))
  (refine sD (v := ?_) (a' := ?_) Tryd.func30 rfl rfl (by rfl) rfl (by kernel_rfl) rfl (by rfl) ?_ ?_ ?_; rotate_left 2; (· intro w1 hg; exact HG.out w1 (HO.up hg).below); (· simp only [Act.put, List.setIfInBounds_toArray, List.set_cons_zero, List.set_cons_succ, kw64, kw32]; rfl))
  (refine sP (v := ?_) (a' := ?_) rfl rfl (by rfl) ?_ ?_ ?_; rotate_left 2; (· intro w'; go_simp; with_reducible rfl); (· simp only [Act.put, List.setIfInBounds_toArray, List.set_cons_zero, List.set_cons_succ, kw64, kw32]; rfl))
  (refine sP (v := ?_) (a' := ?_) rfl rfl (by rfl) ?_ ?_ ?_; rotate_left 2; (· intro w'; go_simp; with_reducible rfl); (· simp only [Act.put, List.setIfInBounds_toArray, List.set_cons_zero, List.set_cons_succ, kw64, kw32]; rfl))
  intro w1 hg
  replace HO := HO.up hg
  clear hg
  go_wp2
  go_ret2
  exact ⟨rfl, HO.below⟩
set_option maxHeartbeats 4000000 in
theorem Open_no (key head locked : ByteArray) (w : World) (hz : locked.size ≤ 9223372036854775807) (hm : mayL key head ((locked.size : Int) - 32) = false) :
    Calls Tryd.prog 8 #[.string key, .string head, .string locked] w fun e w' => e = .returned (.tuple #[.string ⟨#[]⟩, .int .i64 2]) ∧ Below w.heap.size w w' := by
  have HM := Lib.hid (fun w1 => may_lock key head ((locked.size : Int) - 32) w1)
  rw [hm, if_neg (by decide)] at HM
  clear hm
  go_enter Tryd.func8, Tryd.ntmps8
  go_wp2_with fail
  refine (HM.out _).mono ?_
  rintro e w1 ⟨rfl, hb⟩
  go_wp2
  go_ret2
  exact ⟨rfl, hb⟩
/-- what is opened -/
def bodyF (locked : ByteArray) : ByteArray := locked.extract 0 (locked.size - 32)
theorem bodyF_size (locked : ByteArray) : (bodyF locked).size = locked.size - 32 := by
  unfold bodyF; rw [ByteArray.size_extract]; omega
set_option maxHeartbeats 4000000 in
set_option maxRecDepth 100000 in
theorem Open_yes (key head locked : ByteArray) (w : World) (hm : mayL key head ((locked.size : Int) - 32) = true) (hK : KeysAt w) :
    Calls Tryd.prog 8 #[.string key, .string head, .string locked] w fun e w' => e = .returned (if tagB (kTF key) head (bodyF locked) = locked then .tuple #[.string (xorF (kHF key) (kNF key) (bodyF locked)), .int .i64 0] else .tuple #[.string ⟨#[]⟩, .int .i64 3]) ∧ Below w.heap.size w w' := by
  have HM := Lib.hid (fun w1 => may_lock key head ((locked.size : Int) - 32) w1)
  obtain ⟨h1, h2, h3, h4⟩ := (mayL_iff _ _ _).1 hm
  rw [hm, if_pos rfl] at HM
  have hbs := bodyF_size locked
  have HF := Lib.hid (fun w1 (hg : Gr w w1) => of_lock key w1 (by omega) (hK.up hg))
  have HT := Lib.hid (fun w1 => turned_any (kHF key) (kTF key) (kNF key) head (bodyF locked) w1 (kHF_size key) (kNF_size key) (by omega))
  have HG := Lib.hid (fun w1 (hg : Gr w w1) => tagged_any (kHF key) (kTF key) (kNF key) head (bodyF locked) w1 (by rw [kTF_size]; omega) h2 (by omega) (hK.up hg))
  have htz := tagB_size (kTF key) head (bodyF locked)
  have HE := Lib.hid (fun w1 => dSame_any (tagB (kTF key) head (bodyF locked)) locked w1 (by omega) (by omega))
  have HBF := Lib.hid (show locked.extract 0 ((locked.size : Int) - 32).toNat = bodyF locked by unfold bodyF; rw [show ((locked.size : Int) - 32).toNat = locked.size - 32 by omega])
  have hs1 : (0 : Int) ≤ (locked.size : Int) - 32 := h3
  have hs2 : (locked.size : Int) - 32 ≤ (locked.size : Int) := by omega
  have hw1 : -9223372036854775808 ≤ (locked.size : Int) - 32 := by omega
  have hw2 : (locked.size : Int) - 32 ≤ 9223372036854775807 := by omega
  have HO := Own.start w
  clear hm h1 h2 h3 h4 hK htz hbs
  generalize xorF (kHF key) (kNF key) (bodyF locked) = xt at *
  generalize tagB (kTF key) head (bodyF locked) = tg at *
  generalize bodyF locked = bd at *
  generalize kHF key = kh at *
  generalize kTF key = kt at *
  generalize kNF key = kn at *
  by_cases hq : tg = locked
  · rw [if_pos hq]
    rw [decide_eq_true hq] at HE
    clear hq
    go_enter Tryd.func8, Tryd.ntmps8
    go_wp2_with fail
    refine (HM.out _).mono ?_
    rintro e w1 ⟨rfl, hb⟩
    replace HO := HO.up hb
    clear hb
    go_wp2_with fail
    refine (HF.out _ HO.below).mono ?_
    rintro e w2 ⟨rfl, hb⟩
    replace HO := HO.up hb
    clear hb
    replace HO := HO.alloc' (.cells #[.string kh, .string kt, .string kn, .string head] 63) rfl
    go_wp2_with fail
    revert HO
    generalize World.alloc w2 _ = wb
    generalize w2.heap.size = gb
    intro HO
    refine kall [(1, true, some 26), (2, true, some 27), (3, true, some 28), (5, true, some 30), (0, true, some 25), (4, true, some 29), (6, true, some 31), (7, true, some 32)] (by kernel_rfl) rfl (by kernel_rfl) rfl (fun _ _ _ _ _ h => h) ?_
    (refine sP (v := ?_) (a' := ?_) rfl rfl (by rfl) ?_ ?_ ?_; rotate_left 2; (· intro w'; go_simp; with_reducible rfl); (· simp only [Act.put, List.setIfInBounds_toArray, List.set_cons_zero, List.set_cons_succ, kw64, kw32]; rfl))
    (refine sP (v := ?_) (a' := ?_) rfl rfl (by rfl) ?_ ?_ ?_; rotate_left 2; (· intro w'; go_simp; with_reducible rfl); (· simp only [Act.put, List.setIfInBounds_toArray, List.set_cons_zero, List.set_cons_succ, kw64, kw32]; rfl))
    (refine sP (v := .string bd) (a' := ?_) rfl rfl (by rfl) ?_ ?_ ?_; rotate_left 1; (· intro w'; go_simp; rw [HBF.out, if_pos (by omega)]); (· simp only [Act.put, List.setIfInBounds_toArray, List.set_cons_zero, List.set_cons_succ, kw64, kw32]; rfl))
    (refine sP (v := ?_) (a' := ?_) rfl rfl (by rfl) ?_ ?_ ?_; rotate_left 2; (· intro w'; go_simp; with_reducible rfl); (· simp only [Act.put, List.setIfInBounds_toArray, List.set_cons_zero, List.set_cons_succ, kw64, kw32]; rfl))
    (refine sB (v := ?_) (a' := ?_) rfl rfl (by rfl) ?_ ?_ ?_; rotate_left 2; (· intro w1 hg; (refine Eq.trans (run_load_row 63 (.tmp 10) rfl gb (by rfl) _ #[.string kh, .string kt, .string kn, .string head] _ _ ((HO.up hg).blk 0 rfl) Tryd.underlying63 rfl (by kernel_rfl)) ?_; with_reducible rfl)); (· simp only [Act.put, List.setIfInBounds_toArray, List.set_cons_zero, List.set_cons_succ, kw64, kw32]; rfl))
    (refine sD (v := ?_) (a' := ?_) Tryd.func30 rfl rfl (by rfl) rfl (by kernel_rfl) rfl (by rfl) ?_ ?_ ?_; rotate_left 2; (· intro w1 hg; exact HG.out w1 (HO.up hg).below); (· simp only [Act.put, List.setIfInBounds_toArray, List.set_cons_zero, List.set_cons_succ, kw64, kw32]; rfl))
    (refine sD (v := ?_) (a' := ?_) Tryd.func29 rfl rfl (by rfl) rfl (by kernel_rfl) rfl (by rfl) ?_ ?_ ?_; rotate_left 2; (· intro w1 hg; exact HE.out w1); (· simp only [Act.put, List.setIfInBounds_toArray, List.set_cons_zero, List.set_cons_succ, kw64, kw32]; rfl))
    (refine sP (v := ?_) (a' := ?_) rfl rfl (by rfl) ?_ ?_ ?_; rotate_left 2; (· intro w'; go_simp; with_reducible rfl); (· simp only [Act.put, List.setIfInBounds_toArray, List.set_cons_zero, List.set_cons_succ, kw64, kw32]; rfl))
    intro w1 hg
    replace HO := HO.up hg
    clear hg
    go_wp2_with fail
    refine kall [(1, true, some 34), (2, true, some 35), (3, true, some 36), (0, true, some 33), (4, true, some 37), (5, true, some 6), (6, true, some 7)] (by kernel_rfl) rfl (by kernel_rfl) rfl (fun _ _ _ _ _ h => h) ?_
    (refine sP (v := ?_) (a' := ?_) rfl rfl (by rfl) ?_ ?_ ?_; rotate_left 2; (· intro w'; go_simp; with_reducible rfl); (· simp only [Act.put, List.setIfInBounds_toArray, List.set_cons_zero, List.set_cons_succ, kw64, kw32]; rfl))
    (refine sP (v := ?_) (a' := ?_) rfl rfl (by rfl) ?_ ?_ ?_; rotate_left 2; (· intro w'; go_simp; with_reducible rfl); (· simp only [Act.put, List.setIfInBounds_toArray, List.set_cons_zero, List.set_cons_succ, kw64, kw32]; rfl))
    (refine sP (v := .string bd) (a' := ?_) rfl rfl (by rfl) ?_ ?_ ?_; rotate_left 1; (· intro w'; go_simp; rw [HBF.out, if_pos (by omega)]); (· simp only [Act.put, List.setIfInBounds_toArray, List.set_cons_zero, List.set_cons_succ, kw64, kw32]; rfl))
    (refine sB (v := ?_) (a' := ?_) rfl rfl (by rfl) ?_ ?_ ?_; rotate_left 2; (· intro w1 hg; (refine Eq.trans (run_load_row 63 (.tmp 10) rfl gb (by rfl) _ #[.string kh, .string kt, .string kn, .string head] _ _ ((HO.up hg).blk 0 rfl) Tryd.underlying63 rfl (by kernel_rfl)) ?_; with_reducible rfl)); (· simp only [Act.put, List.setIfInBounds_toArray, List.set_cons_zero, List.set_cons_succ, kw64, kw32]; rfl))
    (refine sD (v := ?_) (a' := ?_) Tryd.func31 rfl rfl (by rfl) rfl (by kernel_rfl) rfl (by rfl) ?_ ?_ ?_; rotate_left 2; (· intro w1 hg; exact HT.out w1); (· simp only [Act.put, List.setIfInBounds_toArray, List.set_cons_zero, List.set_cons_succ, kw64, kw32]; rfl))
    (refine sP (v := ?_) (a' := ?_) rfl rfl (by rfl) ?_ ?_ ?_; rotate_left 2; (· intro w'; go_simp; with_reducible rfl); (· simp only [Act.put, List.setIfInBounds_toArray, List.set_cons_zero, List.set_cons_succ, kw64, kw32]; rfl))
    (refine sP (v := ?_) (a' := ?_) rfl rfl (by rfl) ?_ ?_ ?_; rotate_left 2; (· intro w'; go_simp; with_reducible rfl); (· simp only [Act.put, List.setIfInBounds_toArray, List.set_cons_zero, List.set_cons_succ, kw64, kw32]; rfl))
    intro w1 hg
    replace HO := HO.up hg
    clear hg
    go_wp2
    go_ret2
    exact ⟨rfl, HO.below⟩
  · rw [if_neg hq]
    rw [decide_eq_false hq] at HE
    clear hq
    go_enter Tryd.func8, Tryd.ntmps8
    go_wp2_with fail
    refine (HM.out _).mono ?_
    rintro e w1 ⟨rfl, hb⟩
    replace HO := HO.up hb
    clear hb
    go_wp2_with fail
    refine (HF.out _ HO.below).mono ?_
    rintro e w2 ⟨rfl, hb⟩
    replace HO := HO.up hb
    clear hb
    replace HO := HO.alloc' (.cells #[.string kh, .string kt, .string kn, .string head] 63) rfl
    go_wp2_with fail
    revert HO
    generalize World.alloc w2 _ = wb
    generalize w2.heap.size = gb
    intro HO
    refine kall [(1, true, some 26), (2, true, some 27), (3, true, some 28), (5, true, some 30), (0, true, some 25), (4, true, some 29), (6, true, some 31), (7, true, some 32)] (by kernel_rfl) rfl (by kernel_rfl) rfl (fun _ _ _ _ _ h => h) ?_
    (refine sP (v := ?_) (a' := ?_) rfl rfl (by rfl) ?_ ?_ ?_; rotate_left 2; (· intro w'; go_simp; with_reducible rfl); (· simp only [Act.put, List.setIfInBounds_toArray, List.set_cons_zero, List.set_cons_succ, kw64, kw32]; rfl))
    (refine sP (v := ?_) (a' := ?_) rfl rfl (by rfl) ?_ ?_ ?_; rotate_left 2; (· intro w'; go_simp; with_reducible rfl); (· simp only [Act.put, List.setIfInBounds_toArray, List.set_cons_zero, List.set_cons_succ, kw64, kw32]; rfl))
    (refine sP (v := .string bd) (a' := ?_) rfl rfl (by rfl) ?_ ?_ ?_; rotate_left 1; (· intro w'; go_simp; rw [HBF.out, if_pos (by omega)]); (· simp only [Act.put, List.setIfInBounds_toArray, List.set_cons_zero, List.set_cons_succ, kw64, kw32]; rfl))
    (refine sP (v := ?_) (a' := ?_) rfl rfl (by rfl) ?_ ?_ ?_; rotate_left 2; (· intro w'; go_simp; with_reducible rfl); (· simp only [Act.put, List.setIfInBounds_toArray, List.set_cons_zero, List.set_cons_succ, kw64, kw32]; rfl))
    (refine sB (v := ?_) (a' := ?_) rfl rfl (by rfl) ?_ ?_ ?_; rotate_left 2; (· intro w1 hg; (refine Eq.trans (run_load_row 63 (.tmp 10) rfl gb (by rfl) _ #[.string kh, .string kt, .string kn, .string head] _ _ ((HO.up hg).blk 0 rfl) Tryd.underlying63 rfl (by kernel_rfl)) ?_; with_reducible rfl)); (· simp only [Act.put, List.setIfInBounds_toArray, List.set_cons_zero, List.set_cons_succ, kw64, kw32]; rfl))
    (refine sD (v := ?_) (a' := ?_) Tryd.func30 rfl rfl (by rfl) rfl (by kernel_rfl) rfl (by rfl) ?_ ?_ ?_; rotate_left 2; (· intro w1 hg; exact HG.out w1 (HO.up hg).below); (· simp only [Act.put, List.setIfInBounds_toArray, List.set_cons_zero, List.set_cons_succ, kw64, kw32]; rfl))
    (refine sD (v := ?_) (a' := ?_) Tryd.func29 rfl rfl (by rfl) rfl (by kernel_rfl) rfl (by rfl) ?_ ?_ ?_; rotate_left 2; (· intro w1 hg; exact HE.out w1); (· simp only [Act.put, List.setIfInBounds_toArray, List.set_cons_zero, List.set_cons_succ, kw64, kw32]; rfl))
    (refine sP (v := ?_) (a' := ?_) rfl rfl (by rfl) ?_ ?_ ?_; rotate_left 2; (· intro w'; go_simp; with_reducible rfl); (· simp only [Act.put, List.setIfInBounds_toArray, List.set_cons_zero, List.set_cons_succ, kw64, kw32]; rfl))
    intro w1 hg
    replace HO := HO.up hg
    clear hg
    go_wp2
    go_ret2
    exact ⟨rfl, HO.below⟩
set_option maxHeartbeats 4000000 in
theorem Again_no (key head bytes : ByteArray) (w : World) (hm : mayL key head (bytes.size : Int) = false) :
    Calls Tryd.prog 15 #[.string key, .string head, .string bytes] w fun e w' => e = .returned (.tuple #[.string ⟨#[]⟩, .int .i64 2]) ∧ Below w.heap.size w w' := by
  have HM := Lib.hid (fun w1 => may_lock key head (bytes.size : Int) w1)
  rw [hm, if_neg (by decide)] at HM
  clear hm
  go_enter Tryd.func15, Tryd.ntmps15
  go_wp2_with fail
  refine (HM.out _).mono ?_
  rintro e w1 ⟨rfl, hb⟩
  go_wp2
  go_ret2
  exact ⟨rfl, hb⟩
set_option maxHeartbeats 4000000 in
set_option maxRecDepth 100000 in
theorem Again_yes (key head bytes : ByteArray) (w : World) (hm : mayL key head (bytes.size : Int) = true) (hK : KeysAt w) :
    Calls Tryd.prog 15 #[.string key, .string head, .string bytes] w fun e w' => e = .returned (.tuple #[.string (tagB key head bytes), .int .i64 0]) ∧ Below w.heap.size w w' := by
  have HM := Lib.hid (fun w1 => may_lock key head (bytes.size : Int) w1)
  obtain ⟨h1, h2, h3, h4⟩ := (mayL_iff _ _ _).1 hm
  rw [hm, if_pos rfl] at HM
  have HG := Lib.hid (fun w1 (hg : Gr w w1) => tagged_any ⟨#[]⟩ key ⟨#[]⟩ head bytes w1 (by omega) h2 (by omega) (hK.up hg))
  have HO := Own.start w
  clear hm h1 h2 h3 h4 hK
  generalize tagB key head bytes = tg at *
  go_enter Tryd.func15, Tryd.ntmps15
  go_wp2_with fail
  refine (HM.out _).mono ?_
  rintro e w1 ⟨rfl, hb⟩
  replace HO := HO.up hb
  clear hb
  go_wp2_with fail
  refine (HG.out _ HO.below).mono ?_
  rintro e w2 ⟨rfl, hb⟩
  replace HO := HO.up hb
  clear hb
  go_wp2
  go_ret2
  exact ⟨rfl, HO.below⟩
end Go.Proofs.YtpbaolijacimjaaDoor

set_option linter.unusedSimpArgs false
/- LAYER 6: the document's answer. -/
namespace Go.Proofs.YtpbaolijacimjaaDoor
open Go.RowKit Go.Proofs.YtpbaolijacimjaaDoorW.PrintWords
attribute [local irreducible] Calls mixF
set_option maxHeartbeats 4000000 in
set_option maxRecDepth 100000 in
theorem RKeys_any (A1 : Option Addr) (c1 : Nat) (A2 : Option Addr) (c2 : Nat) (key : ByteArray) (w : World) (hK : KAt w A1 c1 A2 c2) (hs : key.size ≤ 80000) :
    Calls Tryd.prog 16 #[kV A1 c1 A2 c2, .string key] w fun e w' => e = .returned (.agg #[.string (kHF key), .string (kTF key), .string (kNF key)]) ∧ Below w.heap.size w w' := by
  have HS := Lib.hid (fun w1 (hg : Gr w w1) => RSplit_any A1 c1 A2 c2 key lockW 3 w1 (by decide) hs (by decide) (hK.up hg))
  rw [spl_three] at HS
  have HN := Lib.hid (show kNF key = (kxF key 2).extract 0 12 from rfl)
  have hz := kxF_size key 2 (by decide)
  rw [show kHF key = kxF key 0 from rfl, show kTF key = kxF key 1 from rfl]
  clear hK
  generalize kNF key = n at *
  generalize kxF key 0 = x at *
  generalize kxF key 1 = y at *
  generalize kxF key 2 = z at *
  unfold kV lockW at *
  have HO := ((Own.start w).alloc' (.cells #[.slice A1 64 c1, .slice A2 8 c2] 33) rfl).alloc' (.cells #[.string ⟨#[]⟩, .string ⟨#[]⟩, .string ⟨#[]⟩] 39) (by simp : _ = w.heap.size + 1)
  go_enter Tryd.func16, Tryd.ntmps16
  have c0 := HO.cell 1 rfl
  go_wp2_with fail
  clear c0
  refine (HS.out _ HO.below).mono ?_
  rintro e w1 ⟨⟨A, cp, rfl, hc, hC⟩, hb⟩
  replace HO := HO.up hb
  obtain ⟨bk, of, rfl, hcell, _⟩ := C_pl hC (by decide)
  have d0 : w1.cell? ⟨bk, of, none⟩ = some (.string x) := hcell 0 x rfl
  have d1 := hcell 1 y rfl
  have d2 := hcell 2 z rfl
  have hz12 : (12 : Int) ≤ (z.size : Int) := by omega
  clear hb hC HS hcell
  go_wp2_with fail
  refine bstart (fun _ => w.heap.size) (n := 12) (ds := [11]) #[false, false, false, false, false, false, false, false, false, false, false, false] (by kernel_rfl) rfl rfl HO.below.size (fun HBS => ?_)
  refine bseq (m := 1) (.inl rfl) [(0, true, some 9), (1, true, some 10), (3, true, some 12), (4, true, some 13), (6, true, some 15), (7, true, some 16), (2, false, some 11), (5, false, some 14), (8, false, some 17), (9, true, some 18), (10, true, some 19)] #[true, true, true, true, true, true, true, true, true, true, true, false] HBS (by kernel_rfl) rfl (fun _ _ _ _ _ h => h) ?_
  (refine sP (v := ?_) (a' := ?_) rfl rfl (by rfl) ?_ ?_ ?_; rotate_left 2; (· intro w'; go_simp; with_reducible rfl); (· simp only [Act.put, List.setIfInBounds_toArray, List.set_cons_zero, List.set_cons_succ, kw64, kw32]; rfl))
  (refine sP (v := ?_) (a' := ?_) rfl rfl (by rfl) ?_ ?_ ?_; rotate_left 2; (· intro w'; go_simp; with_reducible rfl); (· simp only [Act.put, List.setIfInBounds_toArray, List.set_cons_zero, List.set_cons_succ, kw64, kw32]; rfl))
  (refine sP (v := ?_) (a' := ?_) rfl rfl (by rfl) ?_ ?_ ?_; rotate_left 2; (· intro w'; go_simp; with_reducible rfl); (· simp only [Act.put, List.setIfInBounds_toArray, List.set_cons_zero, List.set_cons_succ, kw64, kw32]; rfl))
  (refine sP (v := ?_) (a' := ?_) rfl rfl (by rfl) ?_ ?_ ?_; rotate_left 2; (· intro w'; go_simp; with_reducible rfl); (· simp only [Act.put, List.setIfInBounds_toArray, List.set_cons_zero, List.set_cons_succ, kw64, kw32]; rfl))
  (refine sP (v := ?_) (a' := ?_) rfl rfl (by rfl) ?_ ?_ ?_; rotate_left 2; (· intro w'; go_simp; with_reducible rfl); (· simp only [Act.put, List.setIfInBounds_toArray, List.set_cons_zero, List.set_cons_succ, kw64, kw32]; rfl))
  (refine sP (v := ?_) (a' := ?_) rfl rfl (by rfl) ?_ ?_ ?_; rotate_left 2; (· intro w'; go_simp; with_reducible rfl); (· simp only [Act.put, List.setIfInBounds_toArray, List.set_cons_zero, List.set_cons_succ, kw64, kw32]; rfl))
  (refine sL (v := ?_) (a' := ?_) rfl rfl (by rfl) ?_ ?_ ?_; rotate_left 2; (· intro w1 hg; have h1 := pw_cell_below hg d0; have h2 := pw_cell_below hg d1; have h3 := pw_cell_below hg d2; go_simp; with_reducible rfl); (· simp only [Act.put, List.setIfInBounds_toArray, List.set_cons_zero, List.set_cons_succ, kw64, kw32]; rfl))
  (refine sL (v := ?_) (a' := ?_) rfl rfl (by rfl) ?_ ?_ ?_; rotate_left 2; (· intro w1 hg; have h1 := pw_cell_below hg d0; have h2 := pw_cell_below hg d1; have h3 := pw_cell_below hg d2; go_simp; with_reducible rfl); (· simp only [Act.put, List.setIfInBounds_toArray, List.set_cons_zero, List.set_cons_succ, kw64, kw32]; rfl))
  (refine sL (v := ?_) (a' := ?_) rfl rfl (by rfl) ?_ ?_ ?_; rotate_left 2; (· intro w1 hg; have h1 := pw_cell_below hg d0; have h2 := pw_cell_below hg d1; have h3 := pw_cell_below hg d2; go_simp; with_reducible rfl); (· simp only [Act.put, List.setIfInBounds_toArray, List.set_cons_zero, List.set_cons_succ, kw64, kw32]; rfl))
  (refine sP (v := .string n) (a' := ?_) rfl rfl (by rfl) ?_ ?_ ?_; rotate_left 1; (· intro w'; go_simp; rw [HN.out]); (· simp only [Act.put, List.setIfInBounds_toArray, List.set_cons_zero, List.set_cons_succ, kw64, kw32]; rfl))
  (refine sP (v := ?_) (a' := ?_) rfl rfl (by rfl) ?_ ?_ ?_; rotate_left 2; (· intro w'; go_simp; with_reducible rfl); (· simp only [Act.put, List.setIfInBounds_toArray, List.set_cons_zero, List.set_cons_succ, kw64, kw32]; rfl))
  refine bone (i := 11) (N := none) #[true, true, true, true, true, true, true, true, true, true, true, true] rfl rfl (by kernel_rfl) HBS (fun w1 hg K hK => ?_)
  rw [if_pos (by rfl)]
  replace HO := HO.up hg
  have cS := HO.cell 0 rfl
  have fS := HO.frozen 0 rfl
  go_simp
  refine hK _ _ (in_ds (by decide) ((bel_set (by omega)).trans ((bel_set (by omega)).trans (bel_set (by omega))))) (fun HBS => ?_)
  replace HO := HO.set' 0 rfl 0 (.string x) (L' := [(w.heap.size + 1, .cells #[(.string x), (.string ⟨#[]⟩), (.string ⟨#[]⟩)] 39 (0, 0)), (w.heap.size, .cells #[.slice A1 64 c1, .slice A2 8 c2] 33 (0, 0))]) rfl
  replace HO := HO.set' 0 rfl 1 (.string y) (L' := [(w.heap.size + 1, .cells #[(.string x), (.string y), (.string ⟨#[]⟩)] 39 (0, 0)), (w.heap.size, .cells #[.slice A1 64 c1, .slice A2 8 c2] 33 (0, 0))]) rfl
  replace HO := HO.set' 0 rfl 2 (.string n) (L' := [(w.heap.size + 1, .cells #[(.string x), (.string y), (.string n)] 39 (0, 0)), (w.heap.size, .cells #[.slice A1 64 c1, .slice A2 8 c2] 33 (0, 0))]) rfl
  clear cS fS hg K hK
  revert HO HBS
  generalize World.setCell (World.setCell (World.setCell _ _ _) _ _) _ _ = wb
  intro HBS HO
  refine bdone (by kernel_rfl) (fun w1 hg => ?_)
  replace HO := HO.up hg
  clear hg
  go_wp2
  exact bodyPost_ret (v := .agg #[.string x, .string y, .string n]) (results_cell_row Tryd.results16 _ _ (w.heap.size + 1) 39 _ (0, 0) _ (by rfl) (HO.blk 0 rfl) Tryd.underlying39 rfl (by kernel_rfl)) rfl ⟨rfl, HO.below⟩
set_option maxHeartbeats 4000000 in
set_option maxRecDepth 100000 in
theorem RAgain_any (A1 : Option Addr) (c1 : Nat) (A2 : Option Addr) (c2 : Nat) (t head bytes : ByteArray) (w : World) (hK : KAt w A1 c1 A2 c2) (ht : t.size ≤ 80000) (hh : head.size ≤ 1024) (hb : bytes.size ≤ 2000) :
    Calls Tryd.prog 18 #[kV A1 c1 A2 c2, .string t, .string head, .string bytes] w fun e w' => e = .returned (.string (tagB t head bytes)) ∧ Below w.heap.size w w' := by
  have HT := Lib.hid (fun w1 (hg : Gr w w1) => RTag_any A1 c1 A2 c2 t (hdF head.size ++ head ++ bytes) w1 (hK.up hg) (by omega) (by rw [ByteArray.size_append, ByteArray.size_append, hdF_size]; omega))
  have HB := Lib.hid (show tagB t head bytes = bytes ++ tagF t (hdF head.size ++ head ++ bytes) from rfl)
  have htz := tagF_size t (hdF head.size ++ head ++ bytes)
  have hcv := conv_lit2 Tryd.underlying42 Tryd.underlying5 Tryd.underlying9 (w.alloc (.cells #[.slice A1 64 c1, .slice A2 8 c2] 33)) ((head.size : Int) / 256) ((head.size : Int) % 256)
  rw [show (⟨[UInt8.ofNat ((head.size : Int) / 256).toNat, UInt8.ofNat ((head.size : Int) % 256).toNat].toArray⟩ : ByteArray) = hdF head.size by
    unfold hdF
    rw [show ((head.size : Int) / 256).toNat = head.size / 256 by omega, show ((head.size : Int) % 256).toNat = head.size % 256 by omega]] at hcv
  rw [show (w.alloc (.cells #[.slice A1 64 c1, .slice A2 8 c2] 33)).heap.size = w.heap.size + 1 by simp] at hcv
  have k1 : ¬ ((hdF head.size).size + head.size > 9223372036854775807) := by rw [hdF_size]; omega
  have k2 : ¬ ((hdF head.size ++ head).size + bytes.size > 9223372036854775807) := by rw [ByteArray.size_append, hdF_size]; omega
  have k3 : ¬ (bytes.size + (tagF t (hdF head.size ++ head ++ bytes)).size > 9223372036854775807) := by rw [htz]; omega
  have hq : (head.size : Int) / 256 % 256 = (head.size : Int) / 256 := by omega
  clear htz hK hb
  generalize tagF t (hdF head.size ++ head ++ bytes) = tg at *
  generalize hdF head.size = hd at *
  unfold kV at *
  have HO := (Own.start w).alloc' (.cells #[.slice A1 64 c1, .slice A2 8 c2] 33) rfl
  go_enter Tryd.func18, Tryd.ntmps18
  have f0 := HO.cell 0 rfl
  go_wp2_with fail
  clear hcv f0
  refine (HT.out _ (below_alloc HO.below _)).mono ?_
  rintro e w1 ⟨rfl, hb⟩
  have HBB := Lib.hid (below_step (below_alloc HO.below _) hb)
  clear hb HO
  go_wp2
  go_ret
  exact ⟨by rw [HB.out]; rfl, HBB.out⟩
set_option maxHeartbeats 4000000 in
set_option maxRecDepth 100000 in
theorem RLock_any (A1 : Option Addr) (c1 : Nat) (A2 : Option Addr) (c2 : Nat) (key head text : ByteArray) (w : World) (hK : KAt w A1 c1 A2 c2) (hs : key.size ≤ 80000) (hh : head.size ≤ 1024) (ht : text.size ≤ 2000) :
    Calls Tryd.prog 17 #[kV A1 c1 A2 c2, .string key, .string head, .string text] w fun e w' => e = .returned (.string (lockF key head text)) ∧ Below w.heap.size w w' := by
  have HKy := Lib.hid (fun w1 (hg : Gr w w1) => RKeys_any A1 c1 A2 c2 key w1 (hK.up hg) hs)
  have HX := Lib.hid (fun w1 => RXor_any (kHF key) (kNF key) text (kHF_size key) (kNF_size key) (by omega) w1)
  have HG := Lib.hid (fun w1 (hg : Gr w w1) => RAgain_any A1 c1 A2 c2 (kTF key) head (xorF (kHF key) (kNF key) text) w1 (hK.up hg) (by rw [kTF_size]; omega) hh (by rw [xorF_size]; omega))
  rw [show tagB (kTF key) head (xorF (kHF key) (kNF key) text) = lockF key head text from rfl] at HG
  clear hK
  generalize lockF key head text = lk at *
  generalize xorF (kHF key) (kNF key) text = xt at *
  generalize kHF key = kh at *
  generalize kTF key = kt at *
  generalize kNF key = kn at *
  unfold kV at *
  have HO := (Own.start w).alloc' (.cells #[.slice A1 64 c1, .slice A2 8 c2] 33) rfl
  go_enter Tryd.func17, Tryd.ntmps17
  have c0 := HO.cell 0 rfl
  go_wp2_with fail
  clear c0
  refine (HKy.out _ HO.below).mono ?_
  rintro e w2 ⟨rfl, hb⟩
  replace HO := HO.up hb
  clear hb
  replace HO := HO.alloc' (.cells #[.string kh, .string kt, .string kn] 39) rfl
  go_wp2_with fail
  revert HO
  generalize World.alloc w2 _ = wb
  generalize w2.heap.size = gb
  intro HO
  refine kall [(1, true, some 14), (3, true, some 16), (4, true, some 17), (6, true, some 19), (8, true, some 21), (0, true, some 13), (2, true, some 15), (5, true, some 18), (7, true, some 20), (9, true, some 22), (10, true, some 23), (11, true, some 8)] (by kernel_rfl) rfl (by kernel_rfl) rfl (fun _ _ _ _ _ h => h) ?_
  (refine sP (v := ?_) (a' := ?_) rfl rfl (by rfl) ?_ ?_ ?_; rotate_left 2; (· intro w'; go_simp; with_reducible rfl); (· simp only [Act.put, List.setIfInBounds_toArray, List.set_cons_zero, List.set_cons_succ, kw64, kw32]; rfl))
  (refine sP (v := ?_) (a' := ?_) rfl rfl (by rfl) ?_ ?_ ?_; rotate_left 2; (· intro w'; go_simp; with_reducible rfl); (· simp only [Act.put, List.setIfInBounds_toArray, List.set_cons_zero, List.set_cons_succ, kw64, kw32]; rfl))
  (refine sP (v := ?_) (a' := ?_) rfl rfl (by rfl) ?_ ?_ ?_; rotate_left 2; (· intro w'; go_simp; with_reducible rfl); (· simp only [Act.put, List.setIfInBounds_toArray, List.set_cons_zero, List.set_cons_succ, kw64, kw32]; rfl))
  (refine sP (v := ?_) (a' := ?_) rfl rfl (by rfl) ?_ ?_ ?_; rotate_left 2; (· intro w'; go_simp; with_reducible rfl); (· simp only [Act.put, List.setIfInBounds_toArray, List.set_cons_zero, List.set_cons_succ, kw64, kw32]; rfl))
  (refine sP (v := ?_) (a' := ?_) rfl rfl (by rfl) ?_ ?_ ?_; rotate_left 2; (· intro w'; go_simp; with_reducible rfl); (· simp only [Act.put, List.setIfInBounds_toArray, List.set_cons_zero, List.set_cons_succ, kw64, kw32]; rfl))
  (refine sB (v := ?_) (a' := ?_) rfl rfl (by rfl) ?_ ?_ ?_; rotate_left 2; (· intro w1 hg; (refine Eq.trans (run_load_row 33 (.tmp 4) rfl w.heap.size (by rfl) _ #[.slice A1 64 c1, .slice A2 8 c2] _ _ ((HO.up hg).blk 1 rfl) Tryd.underlying33 rfl (by kernel_rfl)) ?_; with_reducible rfl)); (· simp only [Act.put, List.setIfInBounds_toArray, List.set_cons_zero, List.set_cons_succ, kw64, kw32]; rfl))
  (refine sB (v := ?_) (a' := ?_) rfl rfl (by rfl) ?_ ?_ ?_; rotate_left 2; (· intro w1 hg; have h9 := (HO.up hg).cell 0 rfl; go_simp; with_reducible rfl); (· simp only [Act.put, List.setIfInBounds_toArray, List.set_cons_zero, List.set_cons_succ, kw64, kw32]; rfl))
  (refine sB (v := ?_) (a' := ?_) rfl rfl (by rfl) ?_ ?_ ?_; rotate_left 2; (· intro w1 hg; have h9 := (HO.up hg).cell 0 rfl; go_simp; with_reducible rfl); (· simp only [Act.put, List.setIfInBounds_toArray, List.set_cons_zero, List.set_cons_succ, kw64, kw32]; rfl))
  (refine sB (v := ?_) (a' := ?_) rfl rfl (by rfl) ?_ ?_ ?_; rotate_left 2; (· intro w1 hg; have h9 := (HO.up hg).cell 0 rfl; go_simp; with_reducible rfl); (· simp only [Act.put, List.setIfInBounds_toArray, List.set_cons_zero, List.set_cons_succ, kw64, kw32]; rfl))
  (refine sD (v := ?_) (a' := ?_) Tryd.func32 rfl rfl (by rfl) rfl (by kernel_rfl) rfl (by rfl) ?_ ?_ ?_; rotate_left 2; (· intro w1 hg; exact HX.out w1); (· simp only [Act.put, List.setIfInBounds_toArray, List.set_cons_zero, List.set_cons_succ, kw64, kw32]; rfl))
  (refine sD (v := ?_) (a' := ?_) Tryd.func18 rfl rfl (by rfl) rfl (by kernel_rfl) rfl (by rfl) ?_ ?_ ?_; rotate_left 2; (· intro w1 hg; exact HG.out w1 (HO.up hg).below); (· simp only [Act.put, List.setIfInBounds_toArray, List.set_cons_zero, List.set_cons_succ, kw64, kw32]; rfl))
  (refine sP (v := ?_) (a' := ?_) rfl rfl (by rfl) ?_ ?_ ?_; rotate_left 2; (· intro w'; go_simp; with_reducible rfl); (· simp only [Act.put, List.setIfInBounds_toArray, List.set_cons_zero, List.set_cons_succ, kw64, kw32]; rfl))
  intro w1 hg
  replace HO := HO.up hg
  clear hg
  go_wp2
  go_ret
  exact ⟨rfl, HO.below⟩
theorem RMay_any (key head : ByteArray) (n : Int) (w : World) :
    Calls Tryd.prog 9 #[.string key, .string head, .int .i64 n] w fun e w' => e = .returned (.bool (mayL key head n)) ∧ Below w.heap.size w w' := by
  by_cases h1 : key.size = 32
  · have e1 : (key.size : Int) = 32 := by omega
    by_cases h2 : head.size ≤ 1024
    · have e2 : (head.size : Int) ≤ 1024 := by omega
      by_cases h3 : 0 ≤ n
      · by_cases h4 : n ≤ 1024
        · rw [(mayL_iff _ _ _).2 ⟨h1, h2, h3, h4⟩]
          clear h1 h2
          go_enter Tryd.func9, Tryd.ntmps9
          go_wp2
          go_ret
          exact ⟨rfl, Below.refl _ _⟩
        · rw [show mayL key head n = false from Bool.eq_false_iff.2 (fun h => h4 ((mayL_iff _ _ _).1 h).2.2.2)]
          clear h1 h2
          go_enter Tryd.func9, Tryd.ntmps9
          go_wp2
          go_ret
          exact ⟨rfl, Below.refl _ _⟩
      · rw [show mayL key head n = false from Bool.eq_false_iff.2 (fun h => h3 ((mayL_iff _ _ _).1 h).2.2.1)]
        clear h1 h2
        go_enter Tryd.func9, Tryd.ntmps9
        go_wp2
        go_ret
        exact ⟨rfl, Below.refl _ _⟩
    · have e2 : ¬ ((head.size : Int) ≤ 1024) := by omega
      rw [show mayL key head n = false from Bool.eq_false_iff.2 (fun h => h2 ((mayL_iff _ _ _).1 h).2.1)]
      clear h1 h2
      go_enter Tryd.func9, Tryd.ntmps9
      go_wp2
      go_ret
      exact ⟨rfl, Below.refl _ _⟩
  · have e1 : ¬ ((key.size : Int) = 32) := by omega
    rw [show mayL key head n = false from Bool.eq_false_iff.2 (fun h => h1 ((mayL_iff _ _ _).1 h).1)]
    clear h1
    go_enter Tryd.func9, Tryd.ntmps9
    go_wp2
    go_ret
    exact ⟨rfl, Below.refl _ _⟩
/-- the answer of what is opened -/
def opnV (key head locked : ByteArray) : Value := if tagB (kTF key) head (bodyF locked) = locked then .agg #[.string (xorF (kHF key) (kNF key) (bodyF locked)), .bool true] else .agg #[.string ⟨#[]⟩, .bool false]
set_option maxHeartbeats 4000000 in
set_option maxRecDepth 100000 in
theorem ROpen_any (A1 : Option Addr) (c1 : Nat) (A2 : Option Addr) (c2 : Nat) (key head locked : ByteArray) (w : World) (hK : KAt w A1 c1 A2 c2) (hm : mayL key head ((locked.size : Int) - 32) = true) :
    Calls Tryd.prog 11 #[kV A1 c1 A2 c2, .string key, .string head, .string locked] w fun e w' => e = .returned (opnV key head locked) ∧ Below w.heap.size w w' := by
  obtain ⟨h1, h2, h3, h4⟩ := (mayL_iff _ _ _).1 hm
  have hbs := bodyF_size locked
  have HKy := Lib.hid (fun w1 (hg : Gr w w1) => RKeys_any A1 c1 A2 c2 key w1 (hK.up hg) (by omega))
  have HX := Lib.hid (fun w1 => RXor_any (kHF key) (kNF key) (bodyF locked) (kHF_size key) (kNF_size key) (by omega) w1)
  have HG := Lib.hid (fun w1 (hg : Gr w w1) => RAgain_any A1 c1 A2 c2 (kTF key) head (bodyF locked) w1 (hK.up hg) (by rw [kTF_size]; omega) h2 (by omega))
  have HBF := Lib.hid (show locked.extract 0 ((locked.size : Int) - 32).toNat = bodyF locked by unfold bodyF; rw [show ((locked.size : Int) - 32).toNat = locked.size - 32 by omega])
  have hw1 : -9223372036854775808 ≤ (locked.size : Int) - 32 := by omega
  have hw2 : (locked.size : Int) - 32 ≤ 9223372036854775807 := by omega
  have hw3 : (32 : Int) ≤ (locked.size : Int) := by omega
  have hw4 : (locked.size : Int) - 32 ≤ (locked.size : Int) := by omega
  unfold opnV
  clear hm h1 h2 h3 h4 hK hbs
  generalize xorF (kHF key) (kNF key) (bodyF locked) = xt at *
  generalize tagB (kTF key) head (bodyF locked) = tg at *
  generalize bodyF locked = bd at *
  generalize kHF key = kh at *
  generalize kTF key = kt at *
  generalize kNF key = kn at *
  unfold kV at *
  have HO := ((Own.start w).alloc' (.cells #[.slice A1 64 c1, .slice A2 8 c2] 33) rfl).alloc' (.cells #[.string ⟨#[]⟩, .bool false] 29) (by simp : _ = w.heap.size + 1)
  have hne := str_beq tg locked
  by_cases hq : tg = locked
  · rw [if_pos hq]
    rw [decide_eq_true hq] at hne
    clear hq
    go_enter Tryd.func11, Tryd.ntmps11
    have c0 := HO.cell 1 rfl
    go_wp2_with fail
    clear c0
    refine (HKy.out _ HO.below).mono ?_
    rintro e w2 ⟨rfl, hb⟩
    replace HO := HO.up hb
    clear hb
    replace HO := HO.alloc' (.cells #[.string kh, .string kt, .string kn] 39) rfl
    go_wp2_with fail
    revert HO
    generalize World.alloc w2 _ = wb
    generalize w2.heap.size = gb
    intro HO
    refine kall [(1, true, some 18), (3, true, some 20), (4, true, some 21), (5, true, some 22), (6, true, some 23), (8, true, some 25), (0, true, some 17), (2, true, some 19), (7, true, some 24), (9, true, some 26)] (by kernel_rfl) rfl (by kernel_rfl) rfl (fun _ _ _ _ _ h => h) ?_
    (refine sP (v := ?_) (a' := ?_) rfl rfl (by rfl) ?_ ?_ ?_; rotate_left 2; (· intro w'; go_simp; with_reducible rfl); (· simp only [Act.put, List.setIfInBounds_toArray, List.set_cons_zero, List.set_cons_succ, kw64, kw32]; rfl))
    (refine sP (v := ?_) (a' := ?_) rfl rfl (by rfl) ?_ ?_ ?_; rotate_left 2; (· intro w'; go_simp; with_reducible rfl); (· simp only [Act.put, List.setIfInBounds_toArray, List.set_cons_zero, List.set_cons_succ, kw64, kw32]; rfl))
    (refine sP (v := ?_) (a' := ?_) rfl rfl (by rfl) ?_ ?_ ?_; rotate_left 2; (· intro w'; go_simp; with_reducible rfl); (· simp only [Act.put, List.setIfInBounds_toArray, List.set_cons_zero, List.set_cons_succ, kw64, kw32]; rfl))
    (refine sP (v := ?_) (a' := ?_) rfl rfl (by rfl) ?_ ?_ ?_; rotate_left 2; (· intro w'; go_simp; with_reducible rfl); (· simp only [Act.put, List.setIfInBounds_toArray, List.set_cons_zero, List.set_cons_succ, kw64, kw32]; rfl))
    (refine sP (v := .string bd) (a' := ?_) rfl rfl (by rfl) ?_ ?_ ?_; rotate_left 1; (· intro w'; go_simp; rw [HBF.out]); (· simp only [Act.put, List.setIfInBounds_toArray, List.set_cons_zero, List.set_cons_succ, kw64, kw32]; rfl))
    (refine sP (v := ?_) (a' := ?_) rfl rfl (by rfl) ?_ ?_ ?_; rotate_left 2; (· intro w'; go_simp; with_reducible rfl); (· simp only [Act.put, List.setIfInBounds_toArray, List.set_cons_zero, List.set_cons_succ, kw64, kw32]; rfl))
    (refine sB (v := ?_) (a' := ?_) rfl rfl (by rfl) ?_ ?_ ?_; rotate_left 2; (· intro w1 hg; (refine Eq.trans (run_load_row 33 (.tmp 4) rfl w.heap.size (by rfl) _ #[.slice A1 64 c1, .slice A2 8 c2] _ _ ((HO.up hg).blk 2 rfl) Tryd.underlying33 rfl (by kernel_rfl)) ?_; with_reducible rfl)); (· simp only [Act.put, List.setIfInBounds_toArray, List.set_cons_zero, List.set_cons_succ, kw64, kw32]; rfl))
    (refine sB (v := ?_) (a' := ?_) rfl rfl (by rfl) ?_ ?_ ?_; rotate_left 2; (· intro w1 hg; have h9 := (HO.up hg).cell 0 rfl; go_simp; with_reducible rfl); (· simp only [Act.put, List.setIfInBounds_toArray, List.set_cons_zero, List.set_cons_succ, kw64, kw32]; rfl))
    (refine sD (v := ?_) (a' := ?_) Tryd.func18 rfl rfl (by rfl) rfl (by kernel_rfl) rfl (by rfl) ?_ ?_ ?_; rotate_left 2; (· intro w1 hg; exact HG.out w1 (HO.up hg).below); (· simp only [Act.put, List.setIfInBounds_toArray, List.set_cons_zero, List.set_cons_succ, kw64, kw32]; rfl))
    (refine sP (v := ?_) (a' := ?_) rfl rfl (by rfl) ?_ ?_ ?_; rotate_left 2; (· intro w'; go_simp; with_reducible rfl); (· simp only [Act.put, List.setIfInBounds_toArray, List.set_cons_zero, List.set_cons_succ, kw64, kw32]; rfl))
    intro w1 hg
    replace HO := HO.up hg
    clear hg
    go_wp2_with fail
    refine bstart (fun _ => w.heap.size) (n := 10) (ds := [9]) #[false, false, false, false, false, false, false, false, false, false] (by kernel_rfl) rfl rfl HO.below.size (fun HBS => ?_)
    refine bseq (m := 1) (.inl rfl) [(0, true, some 28), (2, true, some 30), (4, true, some 32), (5, true, some 33), (6, true, some 34), (1, false, some 29), (3, false, some 31), (7, false, some 35), (8, true, some 36)] #[true, true, true, true, true, true, true, true, true, false] HBS (by kernel_rfl) rfl (fun _ _ _ _ _ h => h) ?_
    (refine sP (v := ?_) (a' := ?_) rfl rfl (by rfl) ?_ ?_ ?_; rotate_left 2; (· intro w'; go_simp; with_reducible rfl); (· simp only [Act.put, List.setIfInBounds_toArray, List.set_cons_zero, List.set_cons_succ, kw64, kw32]; rfl))
    (refine sP (v := ?_) (a' := ?_) rfl rfl (by rfl) ?_ ?_ ?_; rotate_left 2; (· intro w'; go_simp; with_reducible rfl); (· simp only [Act.put, List.setIfInBounds_toArray, List.set_cons_zero, List.set_cons_succ, kw64, kw32]; rfl))
    (refine sP (v := ?_) (a' := ?_) rfl rfl (by rfl) ?_ ?_ ?_; rotate_left 2; (· intro w'; go_simp; with_reducible rfl); (· simp only [Act.put, List.setIfInBounds_toArray, List.set_cons_zero, List.set_cons_succ, kw64, kw32]; rfl))
    (refine sP (v := ?_) (a' := ?_) rfl rfl (by rfl) ?_ ?_ ?_; rotate_left 2; (· intro w'; go_simp; with_reducible rfl); (· simp only [Act.put, List.setIfInBounds_toArray, List.set_cons_zero, List.set_cons_succ, kw64, kw32]; rfl))
    (refine sP (v := .string bd) (a' := ?_) rfl rfl (by rfl) ?_ ?_ ?_; rotate_left 1; (· intro w'; go_simp; rw [HBF.out]); (· simp only [Act.put, List.setIfInBounds_toArray, List.set_cons_zero, List.set_cons_succ, kw64, kw32]; rfl))
    (refine sL (v := ?_) (a' := ?_) rfl rfl (by rfl) ?_ ?_ ?_; rotate_left 2; (· intro w1 hg; have h9 := (HO.up hg).cell 0 rfl; go_simp; with_reducible rfl); (· simp only [Act.put, List.setIfInBounds_toArray, List.set_cons_zero, List.set_cons_succ, kw64, kw32]; rfl))
    (refine sL (v := ?_) (a' := ?_) rfl rfl (by rfl) ?_ ?_ ?_; rotate_left 2; (· intro w1 hg; have h9 := (HO.up hg).cell 0 rfl; go_simp; with_reducible rfl); (· simp only [Act.put, List.setIfInBounds_toArray, List.set_cons_zero, List.set_cons_succ, kw64, kw32]; rfl))
    (refine sC (v := ?_) (a' := ?_) Tryd.func32 rfl rfl (by rfl) rfl (by kernel_rfl) rfl (by rfl) ?_ ?_ ?_; rotate_left 2; (· intro w1 hg; exact HX.out w1); (· simp only [Act.put, List.setIfInBounds_toArray, List.set_cons_zero, List.set_cons_succ, kw64, kw32]; rfl))
    (refine sP (v := ?_) (a' := ?_) rfl rfl (by rfl) ?_ ?_ ?_; rotate_left 2; (· intro w'; go_simp; with_reducible rfl); (· simp only [Act.put, List.setIfInBounds_toArray, List.set_cons_zero, List.set_cons_succ, kw64, kw32]; rfl))
    refine bone (i := 9) (N := none) #[true, true, true, true, true, true, true, true, true, true] rfl rfl (by kernel_rfl) HBS (fun w1 hg K hK => ?_)
    rw [if_pos (by rfl)]
    replace HO := HO.up hg
    have cS := HO.cell 1 rfl
    have fS := HO.frozen 1 rfl
    go_simp
    refine hK _ _ (in_ds (by decide) ((bel_set (by omega)).trans (bel_set (by omega)))) (fun HBS => ?_)
    replace HO := HO.set' 1 rfl 0 (.string xt) (L' := [(gb, .cells #[.string kh, .string kt, .string kn] 39 (0, 0)), (w.heap.size + 1, .cells #[(.string xt), (.bool false)] 29 (0, 0)), (w.heap.size, .cells #[.slice A1 64 c1, .slice A2 8 c2] 33 (0, 0))]) rfl
    replace HO := HO.set' 1 rfl 1 (.bool true) (L' := [(gb, .cells #[.string kh, .string kt, .string kn] 39 (0, 0)), (w.heap.size + 1, .cells #[(.string xt), (.bool true)] 29 (0, 0)), (w.heap.size, .cells #[.slice A1 64 c1, .slice A2 8 c2] 33 (0, 0))]) rfl
    clear cS fS hg K hK
    revert HO HBS
    generalize World.setCell (World.setCell _ _ _) _ _ = wb
    intro HBS HO
    refine bdone (by kernel_rfl) (fun w1 hg => ?_)
    replace HO := HO.up hg
    clear hg
    go_wp2
    exact bodyPost_ret (v := .agg #[.string xt, .bool true]) (results_cell_row Tryd.results11 _ _ (w.heap.size + 1) 29 _ (0, 0) _ (by rfl) (HO.blk 1 rfl) Tryd.underlying29 rfl (by kernel_rfl)) rfl ⟨rfl, HO.below⟩
  · rw [if_neg hq]
    rw [decide_eq_false hq] at hne
    clear hq
    go_enter Tryd.func11, Tryd.ntmps11
    have c0 := HO.cell 1 rfl
    go_wp2_with fail
    clear c0
    refine (HKy.out _ HO.below).mono ?_
    rintro e w2 ⟨rfl, hb⟩
    replace HO := HO.up hb
    clear hb
    replace HO := HO.alloc' (.cells #[.string kh, .string kt, .string kn] 39) rfl
    go_wp2_with fail
    revert HO
    generalize World.alloc w2 _ = wb
    generalize w2.heap.size = gb
    intro HO
    refine kall [(1, true, some 18), (3, true, some 20), (4, true, some 21), (5, true, some 22), (6, true, some 23), (8, true, some 25), (0, true, some 17), (2, true, some 19), (7, true, some 24), (9, true, some 26)] (by kernel_rfl) rfl (by kernel_rfl) rfl (fun _ _ _ _ _ h => h) ?_
    (refine sP (v := ?_) (a' := ?_) rfl rfl (by rfl) ?_ ?_ ?_; rotate_left 2; (· intro w'; go_simp; with_reducible rfl); (· simp only [Act.put, List.setIfInBounds_toArray, List.set_cons_zero, List.set_cons_succ, kw64, kw32]; rfl))
    (refine sP (v := ?_) (a' := ?_) rfl rfl (by rfl) ?_ ?_ ?_; rotate_left 2; (· intro w'; go_simp; with_reducible rfl); (· simp only [Act.put, List.setIfInBounds_toArray, List.set_cons_zero, List.set_cons_succ, kw64, kw32]; rfl))
    (refine sP (v := ?_) (a' := ?_) rfl rfl (by rfl) ?_ ?_ ?_; rotate_left 2; (· intro w'; go_simp; with_reducible rfl); (· simp only [Act.put, List.setIfInBounds_toArray, List.set_cons_zero, List.set_cons_succ, kw64, kw32]; rfl))
    (refine sP (v := ?_) (a' := ?_) rfl rfl (by rfl) ?_ ?_ ?_; rotate_left 2; (· intro w'; go_simp; with_reducible rfl); (· simp only [Act.put, List.setIfInBounds_toArray, List.set_cons_zero, List.set_cons_succ, kw64, kw32]; rfl))
    (refine sP (v := .string bd) (a' := ?_) rfl rfl (by rfl) ?_ ?_ ?_; rotate_left 1; (· intro w'; go_simp; rw [HBF.out]); (· simp only [Act.put, List.setIfInBounds_toArray, List.set_cons_zero, List.set_cons_succ, kw64, kw32]; rfl))
    (refine sP (v := ?_) (a' := ?_) rfl rfl (by rfl) ?_ ?_ ?_; rotate_left 2; (· intro w'; go_simp; with_reducible rfl); (· simp only [Act.put, List.setIfInBounds_toArray, List.set_cons_zero, List.set_cons_succ, kw64, kw32]; rfl))
    (refine sB (v := ?_) (a' := ?_) rfl rfl (by rfl) ?_ ?_ ?_; rotate_left 2; (· intro w1 hg; (refine Eq.trans (run_load_row 33 (.tmp 4) rfl w.heap.size (by rfl) _ #[.slice A1 64 c1, .slice A2 8 c2] _ _ ((HO.up hg).blk 2 rfl) Tryd.underlying33 rfl (by kernel_rfl)) ?_; with_reducible rfl)); (· simp only [Act.put, List.setIfInBounds_toArray, List.set_cons_zero, List.set_cons_succ, kw64, kw32]; rfl))
    (refine sB (v := ?_) (a' := ?_) rfl rfl (by rfl) ?_ ?_ ?_; rotate_left 2; (· intro w1 hg; have h9 := (HO.up hg).cell 0 rfl; go_simp; with_reducible rfl); (· simp only [Act.put, List.setIfInBounds_toArray, List.set_cons_zero, List.set_cons_succ, kw64, kw32]; rfl))
    (refine sD (v := ?_) (a' := ?_) Tryd.func18 rfl rfl (by rfl) rfl (by kernel_rfl) rfl (by rfl) ?_ ?_ ?_; rotate_left 2; (· intro w1 hg; exact HG.out w1 (HO.up hg).below); (· simp only [Act.put, List.setIfInBounds_toArray, List.set_cons_zero, List.set_cons_succ, kw64, kw32]; rfl))
    (refine sP (v := ?_) (a' := ?_) rfl rfl (by rfl) ?_ ?_ ?_; rotate_left 2; (· intro w'; go_simp; with_reducible rfl); (· simp only [Act.put, List.setIfInBounds_toArray, List.set_cons_zero, List.set_cons_succ, kw64, kw32]; rfl))
    intro w1 hg
    replace HO := HO.up hg
    clear hg
    have cS := HO.cell 1 rfl
    have fS := HO.frozen 1 rfl
    go_wp2
    replace HO := HO.set' 1 rfl 0 (.string ⟨#[]⟩) (L' := [(gb, .cells #[.string kh, .string kt, .string kn] 39 (0, 0)), (w.heap.size + 1, .cells #[(.string ⟨#[]⟩), (.bool false)] 29 (0, 0)), (w.heap.size, .cells #[.slice A1 64 c1, .slice A2 8 c2] 33 (0, 0))]) rfl
    replace HO := HO.set' 1 rfl 1 (.bool false) (L' := [(gb, .cells #[.string kh, .string kt, .string kn] 39 (0, 0)), (w.heap.size + 1, .cells #[(.string ⟨#[]⟩), (.bool false)] 29 (0, 0)), (w.heap.size, .cells #[.slice A1 64 c1, .slice A2 8 c2] 33 (0, 0))]) rfl
    exact bodyPost_ret (v := .agg #[.string ⟨#[]⟩, .bool false]) (results_cell_row Tryd.results11 _ _ (w.heap.size + 1) 29 _ (0, 0) _ (by rfl) (HO.blk 1 rfl) Tryd.underlying29 rfl (by kernel_rfl)) rfl ⟨rfl, HO.below⟩
end Go.Proofs.YtpbaolijacimjaaDoor

set_option linter.unusedSimpArgs false
/- LAYER 6: what the laws share. -/
namespace Go.Proofs.YtpbaolijacimjaaDoor
open Go.RowKit Go.Proofs.YtpbaolijacimjaaDoorW.PrintWords
/-- a text; a long one stays so -/
def cutF (s : ByteArray) (n : Nat) : ByteArray := if 1000 < s.size then s else headB s n
theorem cutF_size (s : ByteArray) (n : Nat) (h : s.size ≤ 9223372036854775807) : (cutF s n).size ≤ 9223372036854775807 := by
  unfold cutF
  split
  · exact h
  · rw [headB_size]; omega
theorem app_head (a b : ByteArray) : (a ++ b).extract 0 a.size = a := by
  refine bOf_inj ?_
  rw [bOf_ext, bOf_app, List.drop_zero, Nat.sub_zero, ← bOf_len a, List.take_left' rfl]
theorem bodyF_tag (t head x : ByteArray) : bodyF (tagB t head x) = x := by
  unfold bodyF
  rw [tagB_size, Nat.add_sub_cancel]
  exact app_head x _
theorem lockF_size (key head text : ByteArray) : (lockF key head text).size = text.size + 32 := by unfold lockF; rw [tagB_size, xorF_size]
theorem lockF_body (key head text : ByteArray) : bodyF (lockF key head text) = xorF (kHF key) (kNF key) text := bodyF_tag _ _ _
attribute [local irreducible] Calls mixF
theorem eqT6 (d : Nat) (w : World) (x0 y0 x1 y1 x2 y2 : ByteArray) :
    (Op.equalIn (d + 2) 39 (.agg #[.string x0, .string x1, .string x2]) (.agg #[.string y0, .string y1, .string y2])).run Tryd.prog w = .ok (x0.toList == y0.toList && (x1.toList == y1.toList && (x2.toList == y2.toList))) w := by
  refine eqA_of Tryd.underlying39 (by kernel_rfl) ?_
  refine eqf_cons (by rfl) (by go_simp; rfl) (by go_simp; rfl) (by go_simp) ?_
  refine eqf_cons (by rfl) (by go_simp; rfl) (by go_simp; rfl) (by go_simp) ?_
  exact eqf_last (by rfl) (by go_simp; rfl) (by go_simp; rfl) (by go_simp)
theorem eqGT6 (op : BinOp) (x y : Operand) (xs ys : Array Value) (w : World) : (eqGuard op 39 x y (.agg xs) (.agg ys)).run Tryd.prog w = .ok () w := run_eqGuard_agg w op 39 x y xs ys Tryd.eqGuardType39
theorem eqT6N (w : World) (x0 y0 x1 y1 x2 y2 : ByteArray) :
    (binOp .neq 39 (.agg #[.string x0, .string x1, .string x2]) (.agg #[.string y0, .string y1, .string y2])).run Tryd.prog w = .ok (.bool (!(x0.toList == y0.toList && (x1.toList == y1.toList && (x2.toList == y2.toList))))) w := by
  rw [run_neq_struct, show (10000 : Nat) = 9998 + 2 from rfl, eqT6]
  rfl
theorem cut06 (s : ByteArray) (n : Nat) (w : World) : Calls Tryd.prog 7 #[.string s, .int .i64 (n : Int)] w fun e w' => e = .returned (.string (cutF s n)) ∧ Below w.heap.size w w' := by
  unfold cutF
  by_cases h : 1000 < s.size
  · have e1 : (s.size : Int) > 1000 := by omega
    rw [if_pos h]
    clear h
    go_enter Tryd.func7, Tryd.ntmps7
    go_wp2
    go_ret
    exact ⟨rfl, Below.refl _ _⟩
  · have e1 : ¬ ((s.size : Int) > 1000) := by omega
    have e2 : (0 : Int) ≤ min (s.size : Int) (n : Int) := by omega
    have e3 : min (s.size : Int) (n : Int) ≤ (s.size : Int) := by omega
    rw [if_neg h]
    clear h
    go_enter Tryd.func7, Tryd.ntmps7
    go_wp2
    go_ret
    exact ⟨by rw [headB, ← show (min (s.size : Int) (n : Int)).toNat = min s.size n by omega]; rfl, Below.refl _ _⟩
theorem cut60 (s : ByteArray) (w : World) : Calls Tryd.prog 7 #[.string s, .int .i64 60] w fun e w' => e = .returned (.string (cutF s 60)) ∧ Below w.heap.size w w' := cut06 s 60 w
theorem cut100 (s : ByteArray) (w : World) : Calls Tryd.prog 7 #[.string s, .int .i64 100] w fun e w' => e = .returned (.string (cutF s 100)) ∧ Below w.heap.size w w' := cut06 s 100 w
theorem cut140 (s : ByteArray) (w : World) : Calls Tryd.prog 7 #[.string s, .int .i64 140] w fun e w' => e = .returned (.string (cutF s 140)) ∧ Below w.heap.size w w' := cut06 s 140 w
theorem Open_lock (key head text : ByteArray) (w : World) (hm : mayL key head (text.size : Int) = true) (hK : KeysAt w) :
    Calls Tryd.prog 8 #[.string key, .string head, .string (lockF key head text)] w fun e w' => e = .returned (.tuple #[.string text, .int .i64 0]) ∧ Below w.heap.size w w' := by
  have hs : ((lockF key head text).size : Int) - 32 = (text.size : Int) := by rw [lockF_size]; omega
  have h := Open_yes key head (lockF key head text) w (by rw [hs]; exact hm) hK
  rw [lockF_body, xorF_two, if_pos (show tagB (kTF key) head (xorF (kHF key) (kNF key) text) = lockF key head text from rfl)] at h
  exact h
def key6 : ByteArray := ⟨#[48, 49, 50, 51, 52, 53, 54, 55, 56, 57, 97, 98, 99, 100, 101, 102, 48, 49, 50, 51, 52, 53, 54, 55, 56, 57, 97, 98, 99, 100, 101, 102]⟩
set_option maxHeartbeats 1000000 in
theorem alive06 (w : World) (hK : KeysAt w) : Calls Tryd.prog 10 #[] w fun e w' => e = .returned (.bool true) ∧ Below w.heap.size w w' := by
  have HL := Lib.hid (Lock_yes key6 ⟨#[104]⟩ ⟨#[104, 105]⟩ w ((mayL_iff _ _ _).2 ⟨rfl, by decide, by decide, by decide⟩) hK)
  have hls := lockF_size key6 ⟨#[104]⟩ ⟨#[104, 105]⟩
  have HOp := Lib.hid (fun w1 (hg : Gr w w1) => Open_lock key6 ⟨#[104]⟩ ⟨#[104, 105]⟩ w1 ((mayL_iff _ _ _).2 ⟨rfl, by decide, by decide, by decide⟩) (hK.up hg))
  have hsz : ((lockF key6 ⟨#[104]⟩ ⟨#[104, 105]⟩).size : Int) = 34 := by rw [hls]; rfl
  clear hK hls
  generalize lockF key6 ⟨#[104]⟩ ⟨#[104, 105]⟩ = lk at *
  unfold key6 at *
  go_enter Tryd.func10, Tryd.ntmps10
  go_wp2_with fail
  refine HL.out.mono ?_
  rintro e w1 ⟨rfl, hb⟩
  have HB := Lib.hid hb
  clear hb
  go_wp2_with fail
  refine (HOp.out _ HB.out).mono ?_
  rintro e w2 ⟨rfl, hb⟩
  replace HB := Lib.hid (below_step HB.out hb)
  clear hb
  go_wp2
  go_ret
  exact ⟨rfl, HB.out⟩
end Go.Proofs.YtpbaolijacimjaaDoor

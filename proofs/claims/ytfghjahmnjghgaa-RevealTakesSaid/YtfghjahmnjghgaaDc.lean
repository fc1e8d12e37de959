import Derived.Test.YtfghjahmnjghgaaDb
import Derived.Test.YtfghjahmnjghgaaDq
import Derived.Test.YtfghjahmnjghgaaDa
set_option linter.unusedVariables false
set_option linter.unusedSimpArgs false
/- LAYER 8: frames, plainly. -/
namespace Go.Proofs.Ytfghjahmnjghgaa
open Go.RowKit Go.Proofs.YtfghjahmnjghgaaW.PrintWords Go.Proofs.YtfghjahmnjghgaaW.PrintLast Go.Proofs.YtfghjahmnjghgaaW.PrintMore Go.Proofs.Ytfghjahmnjghgaa.PFr
structure FrD where
  kd : Int
  a : Nat
  b : Nat
  c : Nat
  i : ByteArray
  ba : ByteArray
  sg : Nat
  on : Nat
  ra : ByteArray
  pv : Nat
  nn : Nat
  bo : ByteArray
  keys : List ByteArray
deriving DecidableEq
def frV (f : FrD) (sl : Value) : Value := .agg (frC f.kd f.a f.b f.c f.i f.ba f.sg f.on f.ra f.pv f.nn f.bo sl)
/-- a frame's parts ahead of its body or keys -/
def headP (f : FrD) : List PartD := [numP f.kd.toNat, numP f.a, numP f.b, numP f.c] ++ (if f.kd = 0 then [txtP f.i, txtP f.ba, numP f.sg, numP f.on] else []) ++ (if f.kd = 2 then [] else [txtP f.ra, numP f.pv, numP f.nn])
def partsP (f : FrD) : List PartD := headP f ++ (if f.kd = 2 then numP f.keys.length :: f.keys.map txtP else [txtP f.bo])
/-- what its parts tell -/
def ofF (f : FrD) : FrD :=
  if f.kd = 0 then { f with keys := [] }
  else if f.kd = 1 then { f with i := ⟨#[]⟩, ba := ⟨#[]⟩, sg := 0, on := 0, keys := [] }
  else { f with i := ⟨#[]⟩, ba := ⟨#[]⟩, sg := 0, on := 0, ra := ⟨#[]⟩, pv := 0, nn := 0, bo := ⟨#[]⟩ }
def likeF (f g : FrD) : Bool := decide (f = g)
def pointsF (f : FrD) : List ByteArray := if f.kd = 2 then f.keys else if f.kd = 0 then [f.ra, f.i, f.ba] else [f.ra]
def rightF (f : FrD) : Bool := decide (0 ≤ f.kd) && decide (f.kd ≤ 2) && likeF f (ofF f) && decide (f.bo.size ≤ 1024) && decide (f.keys.length ≤ 32) && !(oddL (pointsF f))
/-- parts as the print has them -/
def s1 (p : PartD) : S67 := ⟨p.text, (p.n : Int), p.s⟩
theorem u64n (n : Nat) (h : n < 18446744073709551616) : IntKind.u64.wrap (n : Int) = (n : Int) := by show (n : Int) % 18446744073709551616 = _; omega
theorem head_f (f : FrD) (h0 : 0 ≤ f.kd) (h2 : f.kd ≤ 2) (k : Nat) : frame_head.f (k + 1) f.kd f.a f.b f.c f.i f.ba f.sg f.on f.ra f.pv f.nn f.bo f.keys = some ((headP f).map s1) := by
  have hw : IntKind.u64.wrap f.kd = ((f.kd.toNat : Nat) : Int) := by show f.kd % 18446744073709551616 = _; omega
  unfold frame_head.f
  rw [hw]
  simp only [frame_number.f, frame_text.f, Option.bind_some, frame_head.j0]
  unfold headP
  by_cases k0 : f.kd = 0
  · have h2 : ¬ f.kd = 2 := by omega
    rw [if_pos k0, if_pos (by simp), if_neg h2, if_pos (by simp), if_pos k0, if_neg h2]
    rfl
  · rw [if_neg k0, if_neg k0]
    by_cases k2 : f.kd = 2
    · rw [if_pos k2, if_pos k2]; rfl
    · rw [if_neg k2, if_neg k2, if_pos (by simp)]
      rfl
theorem headP_len (f : FrD) : (headP f).length ≤ 11 := by
  unfold headP
  split <;> split <;> simp
theorem parts_l0 (f : FrD) (k : Nat) : ∀ m i (x : List PartD), i + m = f.keys.length → x.length ≤ 100 + i → f.keys.length ≤ 1000000 → frame_parts.l0 (k + m + 1) (x.map s1) f.keys (f.keys.length : Int) (i : Int) = some ((x ++ (f.keys.drop i).map txtP).map s1)
  | 0, i, x, h, _, _ => by
    obtain rfl : i = f.keys.length := h
    rw [frame_parts.l0, if_neg (by omega)]
    simp
  | m + 1, i, x, h, hx, hn => by
    have w3 : wrap64 ((i : Int) + 1) = ((i + 1 : Nat) : Int) := by unfold wrap64; omega
    obtain ⟨y, hy⟩ : ∃ y, f.keys[i]? = some y := ⟨_, List.getElem?_eq_getElem (by omega)⟩
    have hr : rdOf ByteArray.empty f.keys (i : Int) = y := by
      unfold rdOf
      rw [Int.toNat_natCast, List.getD_eq_getElem?_getD, hy]; rfl
    have hd : f.keys.drop i = y :: f.keys.drop (i + 1) := by
      rw [List.drop_eq_getElem_cons (by omega)]
      rw [List.getElem?_eq_getElem (by omega)] at hy
      rw [Option.some.inj hy]
    rw [frame_parts.l0, if_pos (by omega), if_pos (by omega), if_pos (by omega), hr]
    simp only [frame_text.f, Option.bind_some]
    rw [if_pos (by rw [List.length_map]; omega), w3]
    have := parts_l0 f k m (i + 1) (x ++ [txtP y]) (by omega) (by rw [List.length_append]; simp; omega) hn
    rw [hd]
    rw [List.map_append] at this
    refine Eq.trans ?_ (this.trans ?_)
    · rfl
    · simp
theorem parts_f (f : FrD) (h0 : 0 ≤ f.kd) (h2 : f.kd ≤ 2) (hn : f.keys.length ≤ 1000000) (k : Nat) : frame_parts.f (k + f.keys.length + 1) f.kd f.a f.b f.c f.i f.ba f.sg f.on f.ra f.pv f.nn f.bo f.keys = some ((partsP f).map s1) := by
  have hl := headP_len f
  unfold frame_parts.f
  rw [head_f f h0 h2, Option.bind_some]
  simp only [frame_number.f, frame_text.f, Option.bind_some]
  unfold partsP
  by_cases k2 : f.kd = 2
  · rw [if_pos k2, if_pos k2, if_pos (by rw [List.length_map]; omega), u64n _ (by omega)]
    have := parts_l0 f k f.keys.length 0 (headP f ++ [numP f.keys.length]) (by omega) (by rw [List.length_append]; simp; omega) hn
    rw [List.map_append] at this
    refine Eq.trans ?_ (this.trans ?_)
    · rfl
    · simp
  · rw [if_neg k2, if_neg k2, if_pos (by rw [List.length_map]; omega), List.map_append]; rfl
end Go.Proofs.Ytfghjahmnjghgaa

set_option linter.unusedVariables false
set_option linter.unusedSimpArgs false
/- LAYER 8: parts of frames, and frames of parts. -/
namespace Go.Proofs.Ytfghjahmnjghgaa
open Go.RowKit Go.Proofs.YtfghjahmnjghgaaW.PrintWords Go.Proofs.YtfghjahmnjghgaaW.PrintLast Go.Proofs.YtfghjahmnjghgaaW.PrintMore Go.Proofs.Ytfghjahmnjghgaa.PFr
theorem kP_of {w : World} {A : Option Addr} {n : Nat} {xs : List PartD} (h : Kd.C k67 w A n (xs.map s1)) : Kd.C kP w A n xs := by
  refine ⟨by have := h.1; rw [List.length_map] at this; exact this, h.2.1, fun hp => ?_⟩
  obtain ⟨ad, e, hc⟩ := h.2.2 hp
  refine ⟨ad, e, fun j p hj => ?_⟩
  obtain ⟨cs, hs, hk, hh⟩ := hc j (s1 p) (by rw [List.getElem?_map, hj]; rfl)
  have := k67_open hk
  subst this
  exact ⟨_, rfl, rfl, hh⟩
theorem C_zero {α : Type} (d : Kd α) (w : World) (A : Option Addr) : Kd.C d w A 0 [] := ⟨rfl, by decide, fun h => absurd h (by decide)⟩
theorem parts_any (f : FrD) (h0 : 0 ≤ f.kd) (h2 : f.kd ≤ 2) (A : Option Addr) (c : Nat) (w : World) (hC : Kd.string.C w A f.keys.length f.keys) (hc : f.keys.length ≤ c) (hn : f.keys.length ≤ 1000000) :
    Calls Try.prog 24 #[frV f (.slice A f.keys.length c)] w fun e w' => (∃ B d, e = .returned (.slice B (partsP f).length d) ∧ (partsP f).length ≤ d ∧ Kd.C kP w' B (partsP f).length (partsP f)) ∧ Below w.heap.size w w' := by
  refine (frame_parts.calls (0 + f.keys.length + 1) f.kd f.a f.b f.c f.i f.ba f.sg f.on f.ra f.pv f.nn f.bo A c f.keys _ w hC hc (parts_f f h0 h2 hn 0)).mono ?_
  rintro e w' ⟨v, rfl, hR, hb⟩
  obtain ⟨B, d, rfl⟩ := Kd.R_slice hR
  obtain ⟨_, hd, hD⟩ := Kd.R_reads' hR
  rw [List.length_map] at hd hD ⊢
  exact ⟨⟨B, d, rfl, hd, kP_of hD⟩, hb⟩
theorem head_any (f : FrD) (h0 : 0 ≤ f.kd) (h2 : f.kd ≤ 2) (A : Option Addr) (c : Nat) (w : World) (hC : Kd.string.C w A f.keys.length f.keys) (hc : f.keys.length ≤ c) :
    Calls Try.prog 25 #[frV f (.slice A f.keys.length c)] w fun e w' => (∃ B d, e = .returned (.slice B (headP f).length d) ∧ (headP f).length ≤ d ∧ Kd.C kP w' B (headP f).length (headP f)) ∧ Below w.heap.size w w' := by
  refine (frame_head.calls (0 + 1) f.kd f.a f.b f.c f.i f.ba f.sg f.on f.ra f.pv f.nn f.bo A c f.keys _ w hC hc (head_f f h0 h2 0)).mono ?_
  rintro e w' ⟨v, rfl, hR, hb⟩
  obtain ⟨B, d, rfl⟩ := Kd.R_slice hR
  obtain ⟨_, hd, hD⟩ := Kd.R_reads' hR
  rw [List.length_map] at hd hD ⊢
  exact ⟨⟨B, d, rfl, hd, kP_of hD⟩, hb⟩
theorem of_any (f : FrD) (h0 : 0 ≤ f.kd) (h2 : f.kd ≤ 2) (B : Option Addr) (d : Nat) (w : World) (hC : Kd.C kP w B (partsP f).length (partsP f)) (hd : (partsP f).length ≤ d) (hn : f.keys.length ≤ 1000000) :
    Calls Try.prog 27 #[.slice B (partsP f).length d] w fun e w' => (∃ v, e = .returned (frV (ofF f) v) ∧ Out Kd.string w' v (ofF f).keys) ∧ Below w.heap.size w w' := by
  obtain ⟨kd, a, b, c, i, ba, sg, on, ra, pv, nn, bo, ks⟩ := f
  dsimp only at *
  have hk : kd = 0 ∨ kd = 1 ∨ kd = 2 := by omega
  rcases hk with rfl | rfl | rfl
  · refine (of_hello B d a b c i ba sg on ra pv nn bo w hC hd).mono ?_
    rintro e w' ⟨rfl, hb⟩
    exact ⟨⟨_, rfl, none, 0, rfl, Nat.le_refl 0, by decide, C_zero _ _ _⟩, hb⟩
  · refine (of_later B d a b c ra pv nn bo w hC hd).mono ?_
    rintro e w' ⟨rfl, hb⟩
    exact ⟨⟨_, rfl, none, 0, rfl, Nat.le_refl 0, by decide, C_zero _ _ _⟩, hb⟩
  · have e : partsP ⟨2, a, b, c, i, ba, sg, on, ra, pv, nn, bo, ks⟩ = keyP a b c ks := by
      unfold partsP headP keyP
      simp
    have el : (keyP a b c ks).length = ks.length + 5 := by unfold keyP; simp
    rw [e, el] at hC hd ⊢
    refine (of_keys B d a b c ks w hC hd hn).mono ?_
    rintro e w' ⟨⟨v, rfl, hO⟩, hb⟩
    exact ⟨⟨v, rfl, hO⟩, hb⟩
end Go.Proofs.Ytfghjahmnjghgaa

set_option linter.unusedVariables false
set_option linter.unusedSimpArgs false
/- LAYER 8: two frames. -/
namespace Go.Proofs.Ytfghjahmnjghgaa
open Go.RowKit Go.Proofs.YtfghjahmnjghgaaW.PrintWords Go.Proofs.YtfghjahmnjghgaaW.PrintLast Go.Proofs.YtfghjahmnjghgaaW.PrintMore Go.Proofs.Ytfghjahmnjghgaa.PFr
theorem str_beqF (a b : ByteArray) : (a.toList == b.toList) = decide (a = b) := by
  rw [Bool.eq_iff_iff, beq_iff_eq, decide_eq_true_iff]
  rw [ByteArray.toList_eq, ByteArray.toList_eq]
  exact ⟨fun h => ByteArray.ext (Array.ext' h), fun h => by rw [h]⟩
theorem Equal_l0 (xs ys : List ByteArray) (hl : xs.length = ys.length) (hn : xs.length ≤ 1000000) (k : Nat) : ∀ m i, i + m = xs.length → slices_Equal_string_string.l0 (k + m + 1) xs ys (xs.length : Int) (i : Int) = some (decide (xs.drop i = ys.drop i))
  | 0, i, h => by
    obtain rfl : i = xs.length := h
    rw [slices_Equal_string_string.l0, if_neg (by omega), List.drop_length, hl, List.drop_length]; rfl
  | m + 1, i, h => by
    have w3 : wrap64 ((i : Int) + 1) = ((i + 1 : Nat) : Int) := by unfold wrap64; omega
    obtain ⟨x, hx⟩ : ∃ y, xs[i]? = some y := ⟨_, List.getElem?_eq_getElem (by omega)⟩
    obtain ⟨y, hy⟩ : ∃ y, ys[i]? = some y := ⟨_, List.getElem?_eq_getElem (by omega)⟩
    have hr1 : rdOf ByteArray.empty xs (i : Int) = x := by
      unfold rdOf
      rw [Int.toNat_natCast, List.getD_eq_getElem?_getD, hx]; rfl
    have hr2 : rdOf ByteArray.empty ys (i : Int) = y := by
      unfold rdOf
      rw [Int.toNat_natCast, List.getD_eq_getElem?_getD, hy]; rfl
    have hd1 : xs.drop i = x :: xs.drop (i + 1) := by
      rw [List.drop_eq_getElem_cons (by omega)]
      rw [List.getElem?_eq_getElem (by omega)] at hx
      rw [Option.some.inj hx]
    have hd2 : ys.drop i = y :: ys.drop (i + 1) := by
      rw [List.drop_eq_getElem_cons (by omega)]
      rw [List.getElem?_eq_getElem (by omega)] at hy
      rw [Option.some.inj hy]
    rw [slices_Equal_string_string.l0, if_pos (by omega), if_pos (by omega), if_pos (by omega), if_pos (by omega), hr1, hr2, hd1, hd2]
    by_cases hxy : x = y
    · rw [if_pos (by rw [hxy]), w3, show k + (m + 1) = k + m + 1 from rfl, Equal_l0 xs ys hl hn k m (i + 1) (by omega), hxy]
      simp
    · rw [if_neg (fun h => hxy (by rw [ByteArray.toList_eq, ByteArray.toList_eq] at h; exact ByteArray.ext (Array.ext' h)))]
      simp [hxy]
theorem Equal_f (xs ys : List ByteArray) (hn : xs.length ≤ 1000000) (k : Nat) : slices_Equal_string_string.f (k + xs.length + 1) xs ys = some (decide (xs = ys)) := by
  unfold slices_Equal_string_string.f
  by_cases hl : xs.length = ys.length
  · rw [if_pos (by omega)]
    exact Equal_l0 xs ys hl hn k xs.length 0 (by omega)
  · rw [if_neg (by omega)]
    exact congrArg some (decide_eq_false (fun h => hl (by rw [h]))).symm
attribute [local irreducible] Calls
theorem Equal_any (xs ys : List ByteArray) (A : Option Addr) (c : Nat) (B : Option Addr) (d : Nat) (w : World) (hC : Kd.string.C w A xs.length xs) (hc : xs.length ≤ c) (hD : Kd.string.C w B ys.length ys) (hd : ys.length ≤ d) (hn : xs.length ≤ 1000000) :
    Calls Try.prog 31 #[.slice A xs.length c, .slice B ys.length d] w fun e w' => e = .returned (.bool (decide (xs = ys))) ∧ Below w.heap.size w w' := by
  refine (slices_Equal_string_string.calls (0 + xs.length + 1) A c xs B d ys _ w hC hc hD hd (Equal_f xs ys hn 0)).mono ?_
  rintro e w' ⟨rfl, h⟩
  exact ⟨rfl, by first | exact h | exact h.below⟩
end Go.Proofs.Ytfghjahmnjghgaa

set_option linter.unusedVariables false
set_option linter.unusedSimpArgs false
/- LAYER 8: two frames, walked. -/
namespace Go.Proofs.Ytfghjahmnjghgaa
open Go.RowKit Go.Proofs.YtfghjahmnjghgaaW.PrintWords Go.Proofs.YtfghjahmnjghgaaW.PrintLast Go.Proofs.YtfghjahmnjghgaaW.PrintMore Go.Proofs.Ytfghjahmnjghgaa.PFr
attribute [local irreducible] Calls
set_option maxHeartbeats 8000000 in
set_option maxRecDepth 100000 in
theorem Like_any (f g : FrD) (A : Option Addr) (c : Nat) (B : Option Addr) (d : Nat) (w : World) (hC : Kd.string.C w A f.keys.length f.keys) (hc : f.keys.length ≤ c) (hD : Kd.string.C w B g.keys.length g.keys) (hd : g.keys.length ≤ d) (hn : f.keys.length ≤ 1000000) :
    Calls Try.prog 10 #[frV f (.slice A f.keys.length c), frV g (.slice B g.keys.length d)] w fun e w' => e = .returned (.bool (likeF f g)) ∧ Below w.heap.size w w' := by
  have HE := Lib.hid (fun w1 (hg : Below w.heap.size w w1) => Equal_any f.keys g.keys A c B d w1 (Kd.C_below hC hg) hc (Kd.C_below hD hg) hd hn)
  clear hC hD hc hd hn
  obtain ⟨x0, x1, x2, x3, x4, x5, x6, x7, x8, x9, x10, x11, xk⟩ := f
  obtain ⟨y0, y1, y2, y3, y4, y5, y6, y7, y8, y9, y10, y11, yk⟩ := g
  dsimp only at *
  unfold frV frC
  dsimp only
  generalize hxn : xk.length = xn at *
  generalize hyn : yk.length = yn at *
  clear hxn hyn
  have HO := ((Own.start w).alloc' (.cells #[.int .i64 x0, .int .u64 (x1 : Int), .int .u64 (x2 : Int), .int .u64 (x3 : Int), .string x4, .string x5, .int .u64 (x6 : Int), .int .u64 (x7 : Int), .string x8, .int .u64 (x9 : Int), .int .u64 (x10 : Int), .string x11, .slice A xn c] 25) rfl).alloc' (.cells #[.int .i64 y0, .int .u64 (y1 : Int), .int .u64 (y2 : Int), .int .u64 (y3 : Int), .string y4, .string y5, .int .u64 (y6 : Int), .int .u64 (y7 : Int), .string y8, .int .u64 (y9 : Int), .int .u64 (y10 : Int), .string y11, .slice B yn d] 25) (by simp : _ = w.heap.size + 1)
  have c0 := HO.cell 0 rfl
  have c1 := HO.cell 1 rfl
  by_cases hk : xk = yk
  · rw [decide_eq_true hk] at HE
    by_cases h0 : x0 = y0
    · by_cases h1 : x1 = y1
      · by_cases h2 : x2 = y2
        · by_cases h3 : x3 = y3
          · by_cases h4 : x4 = y4
            · by_cases h5 : x5 = y5
              · by_cases h6 : x6 = y6
                · by_cases h7 : x7 = y7
                  · by_cases h8 : x8 = y8
                    · by_cases h9 : x9 = y9
                      · by_cases h10 : x10 = y10
                        · by_cases h11 : x11 = y11
                          · subst hk
                            subst h0
                            subst h1
                            subst h2
                            subst h3
                            subst h4
                            subst h5
                            subst h6
                            subst h7
                            subst h8
                            subst h9
                            subst h10
                            subst h11
                            rw [show likeF _ _ = true from decide_eq_true rfl]
                            have e0 : ((x0 : Int) == x0) = true := by simp
                            have e1 : ((x1 : Int) == (x1 : Int)) = true := by simp
                            have e2 : ((x2 : Int) == (x2 : Int)) = true := by simp
                            have e3 : ((x3 : Int) == (x3 : Int)) = true := by simp
                            have e4 : (x4.toList == x4.toList) = true := by simp
                            have e5 : (x5.toList == x5.toList) = true := by simp
                            have e6 : ((x6 : Int) == (x6 : Int)) = true := by simp
                            have e7 : ((x7 : Int) == (x7 : Int)) = true := by simp
                            have e8 : (x8.toList == x8.toList) = true := by simp
                            have e9 : ((x9 : Int) == (x9 : Int)) = true := by simp
                            have e10 : ((x10 : Int) == (x10 : Int)) = true := by simp
                            have e11 : (x11.toList == x11.toList) = true := by simp
                            go_enter Try.func10, Try.ntmps10
                            go_wp2_with fail
                            refine (HE.out _ HO.below).mono ?_
                            rintro e w1 ⟨rfl, hb⟩
                            replace HO := HO.up hb
                            clear hb c0 c1
                            have c0 := HO.cell 0 rfl
                            have c1 := HO.cell 1 rfl
                            go_wp2
                            go_ret
                            exact ⟨rfl, HO.below⟩
                          · rw [show likeF _ _ = false from decide_eq_false (fun h => h11 (by injection h))]
                            have e0 : ((x0 : Int) == y0) = true := by rw [h0]; simp
                            have e1 : ((x1 : Int) == (y1 : Int)) = true := by rw [h1]; simp
                            have e2 : ((x2 : Int) == (y2 : Int)) = true := by rw [h2]; simp
                            have e3 : ((x3 : Int) == (y3 : Int)) = true := by rw [h3]; simp
                            have e4 : (x4.toList == y4.toList) = true := by rw [h4]; simp
                            have e5 : (x5.toList == y5.toList) = true := by rw [h5]; simp
                            have e6 : ((x6 : Int) == (y6 : Int)) = true := by rw [h6]; simp
                            have e7 : ((x7 : Int) == (y7 : Int)) = true := by rw [h7]; simp
                            have e8 : (x8.toList == y8.toList) = true := by rw [h8]; simp
                            have e9 : ((x9 : Int) == (y9 : Int)) = true := by rw [h9]; simp
                            have e10 : ((x10 : Int) == (y10 : Int)) = true := by rw [h10]; simp
                            have e11 : (x11.toList == y11.toList) = false := by rw [str_beqF]; exact decide_eq_false h11
                            clear hk h0 h1 h2 h3 h4 h5 h6 h7 h8 h9 h10 h11
                            go_enter Try.func10, Try.ntmps10
                            go_wp2_with fail
                            refine (HE.out _ HO.below).mono ?_
                            rintro e w1 ⟨rfl, hb⟩
                            replace HO := HO.up hb
                            clear hb c0 c1
                            have c0 := HO.cell 0 rfl
                            have c1 := HO.cell 1 rfl
                            go_wp2
                            go_ret
                            exact ⟨rfl, HO.below⟩
                        · rw [show likeF _ _ = false from decide_eq_false (fun h => h10 (by injection h))]
                          have e0 : ((x0 : Int) == y0) = true := by rw [h0]; simp
                          have e1 : ((x1 : Int) == (y1 : Int)) = true := by rw [h1]; simp
                          have e2 : ((x2 : Int) == (y2 : Int)) = true := by rw [h2]; simp
                          have e3 : ((x3 : Int) == (y3 : Int)) = true := by rw [h3]; simp
                          have e4 : (x4.toList == y4.toList) = true := by rw [h4]; simp
                          have e5 : (x5.toList == y5.toList) = true := by rw [h5]; simp
                          have e6 : ((x6 : Int) == (y6 : Int)) = true := by rw [h6]; simp
                          have e7 : ((x7 : Int) == (y7 : Int)) = true := by rw [h7]; simp
                          have e8 : (x8.toList == y8.toList) = true := by rw [h8]; simp
                          have e9 : ((x9 : Int) == (y9 : Int)) = true := by rw [h9]; simp
                          have e10 : ((x10 : Int) == (y10 : Int)) = false := by rw [beq_eq_false_iff_ne]; omega
                          clear hk h0 h1 h2 h3 h4 h5 h6 h7 h8 h9 h10
                          go_enter Try.func10, Try.ntmps10
                          go_wp2_with fail
                          refine (HE.out _ HO.below).mono ?_
                          rintro e w1 ⟨rfl, hb⟩
                          replace HO := HO.up hb
                          clear hb c0 c1
                          have c0 := HO.cell 0 rfl
                          have c1 := HO.cell 1 rfl
                          go_wp2
                          go_ret
                          exact ⟨rfl, HO.below⟩
                      · rw [show likeF _ _ = false from decide_eq_false (fun h => h9 (by injection h))]
                        have e0 : ((x0 : Int) == y0) = true := by rw [h0]; simp
                        have e1 : ((x1 : Int) == (y1 : Int)) = true := by rw [h1]; simp
                        have e2 : ((x2 : Int) == (y2 : Int)) = true := by rw [h2]; simp
                        have e3 : ((x3 : Int) == (y3 : Int)) = true := by rw [h3]; simp
                        have e4 : (x4.toList == y4.toList) = true := by rw [h4]; simp
                        have e5 : (x5.toList == y5.toList) = true := by rw [h5]; simp
                        have e6 : ((x6 : Int) == (y6 : Int)) = true := by rw [h6]; simp
                        have e7 : ((x7 : Int) == (y7 : Int)) = true := by rw [h7]; simp
                        have e8 : (x8.toList == y8.toList) = true := by rw [h8]; simp
                        have e9 : ((x9 : Int) == (y9 : Int)) = false := by rw [beq_eq_false_iff_ne]; omega
                        clear hk h0 h1 h2 h3 h4 h5 h6 h7 h8 h9
                        go_enter Try.func10, Try.ntmps10
                        go_wp2_with fail
                        refine (HE.out _ HO.below).mono ?_
                        rintro e w1 ⟨rfl, hb⟩
                        replace HO := HO.up hb
                        clear hb c0 c1
                        have c0 := HO.cell 0 rfl
                        have c1 := HO.cell 1 rfl
                        go_wp2
                        go_ret
                        exact ⟨rfl, HO.below⟩
                    · rw [show likeF _ _ = false from decide_eq_false (fun h => h8 (by injection h))]
                      have e0 : ((x0 : Int) == y0) = true := by rw [h0]; simp
                      have e1 : ((x1 : Int) == (y1 : Int)) = true := by rw [h1]; simp
                      have e2 : ((x2 : Int) == (y2 : Int)) = true := by rw [h2]; simp
                      have e3 : ((x3 : Int) == (y3 : Int)) = true := by rw [h3]; simp
                      have e4 : (x4.toList == y4.toList) = true := by rw [h4]; simp
                      have e5 : (x5.toList == y5.toList) = true := by rw [h5]; simp
                      have e6 : ((x6 : Int) == (y6 : Int)) = true := by rw [h6]; simp
                      have e7 : ((x7 : Int) == (y7 : Int)) = true := by rw [h7]; simp
                      have e8 : (x8.toList == y8.toList) = false := by rw [str_beqF]; exact decide_eq_false h8
                      clear hk h0 h1 h2 h3 h4 h5 h6 h7 h8
                      go_enter Try.func10, Try.ntmps10
                      go_wp2_with fail
                      refine (HE.out _ HO.below).mono ?_
                      rintro e w1 ⟨rfl, hb⟩
                      replace HO := HO.up hb
                      clear hb c0 c1
                      have c0 := HO.cell 0 rfl
                      have c1 := HO.cell 1 rfl
                      go_wp2
                      go_ret
                      exact ⟨rfl, HO.below⟩
                  · rw [show likeF _ _ = false from decide_eq_false (fun h => h7 (by injection h))]
                    have e0 : ((x0 : Int) == y0) = true := by rw [h0]; simp
                    have e1 : ((x1 : Int) == (y1 : Int)) = true := by rw [h1]; simp
                    have e2 : ((x2 : Int) == (y2 : Int)) = true := by rw [h2]; simp
                    have e3 : ((x3 : Int) == (y3 : Int)) = true := by rw [h3]; simp
                    have e4 : (x4.toList == y4.toList) = true := by rw [h4]; simp
                    have e5 : (x5.toList == y5.toList) = true := by rw [h5]; simp
                    have e6 : ((x6 : Int) == (y6 : Int)) = true := by rw [h6]; simp
                    have e7 : ((x7 : Int) == (y7 : Int)) = false := by rw [beq_eq_false_iff_ne]; omega
                    clear hk h0 h1 h2 h3 h4 h5 h6 h7
                    go_enter Try.func10, Try.ntmps10
                    go_wp2_with fail
                    refine (HE.out _ HO.below).mono ?_
                    rintro e w1 ⟨rfl, hb⟩
                    replace HO := HO.up hb
                    clear hb c0 c1
                    have c0 := HO.cell 0 rfl
                    have c1 := HO.cell 1 rfl
                    go_wp2
                    go_ret
                    exact ⟨rfl, HO.below⟩
                · rw [show likeF _ _ = false from decide_eq_false (fun h => h6 (by injection h))]
                  have e0 : ((x0 : Int) == y0) = true := by rw [h0]; simp
                  have e1 : ((x1 : Int) == (y1 : Int)) = true := by rw [h1]; simp
                  have e2 : ((x2 : Int) == (y2 : Int)) = true := by rw [h2]; simp
                  have e3 : ((x3 : Int) == (y3 : Int)) = true := by rw [h3]; simp
                  have e4 : (x4.toList == y4.toList) = true := by rw [h4]; simp
                  have e5 : (x5.toList == y5.toList) = true := by rw [h5]; simp
                  have e6 : ((x6 : Int) == (y6 : Int)) = false := by rw [beq_eq_false_iff_ne]; omega
                  clear hk h0 h1 h2 h3 h4 h5 h6
                  go_enter Try.func10, Try.ntmps10
                  go_wp2_with fail
                  refine (HE.out _ HO.below).mono ?_
                  rintro e w1 ⟨rfl, hb⟩
                  replace HO := HO.up hb
                  clear hb c0 c1
                  have c0 := HO.cell 0 rfl
                  have c1 := HO.cell 1 rfl
                  go_wp2
                  go_ret
                  exact ⟨rfl, HO.below⟩
              · rw [show likeF _ _ = false from decide_eq_false (fun h => h5 (by injection h))]
                have e0 : ((x0 : Int) == y0) = true := by rw [h0]; simp
                have e1 : ((x1 : Int) == (y1 : Int)) = true := by rw [h1]; simp
                have e2 : ((x2 : Int) == (y2 : Int)) = true := by rw [h2]; simp
                have e3 : ((x3 : Int) == (y3 : Int)) = true := by rw [h3]; simp
                have e4 : (x4.toList == y4.toList) = true := by rw [h4]; simp
                have e5 : (x5.toList == y5.toList) = false := by rw [str_beqF]; exact decide_eq_false h5
                clear hk h0 h1 h2 h3 h4 h5
                go_enter Try.func10, Try.ntmps10
                go_wp2_with fail
                refine (HE.out _ HO.below).mono ?_
                rintro e w1 ⟨rfl, hb⟩
                replace HO := HO.up hb
                clear hb c0 c1
                have c0 := HO.cell 0 rfl
                have c1 := HO.cell 1 rfl
                go_wp2
                go_ret
                exact ⟨rfl, HO.below⟩
            · rw [show likeF _ _ = false from decide_eq_false (fun h => h4 (by injection h))]
              have e0 : ((x0 : Int) == y0) = true := by rw [h0]; simp
              have e1 : ((x1 : Int) == (y1 : Int)) = true := by rw [h1]; simp
              have e2 : ((x2 : Int) == (y2 : Int)) = true := by rw [h2]; simp
              have e3 : ((x3 : Int) == (y3 : Int)) = true := by rw [h3]; simp
              have e4 : (x4.toList == y4.toList) = false := by rw [str_beqF]; exact decide_eq_false h4
              clear hk h0 h1 h2 h3 h4
              go_enter Try.func10, Try.ntmps10
              go_wp2_with fail
              refine (HE.out _ HO.below).mono ?_
              rintro e w1 ⟨rfl, hb⟩
              replace HO := HO.up hb
              clear hb c0 c1
              have c0 := HO.cell 0 rfl
              have c1 := HO.cell 1 rfl
              go_wp2
              go_ret
              exact ⟨rfl, HO.below⟩
          · rw [show likeF _ _ = false from decide_eq_false (fun h => h3 (by injection h))]
            have e0 : ((x0 : Int) == y0) = true := by rw [h0]; simp
            have e1 : ((x1 : Int) == (y1 : Int)) = true := by rw [h1]; simp
            have e2 : ((x2 : Int) == (y2 : Int)) = true := by rw [h2]; simp
            have e3 : ((x3 : Int) == (y3 : Int)) = false := by rw [beq_eq_false_iff_ne]; omega
            clear hk h0 h1 h2 h3
            go_enter Try.func10, Try.ntmps10
            go_wp2_with fail
            refine (HE.out _ HO.below).mono ?_
            rintro e w1 ⟨rfl, hb⟩
            replace HO := HO.up hb
            clear hb c0 c1
            have c0 := HO.cell 0 rfl
            have c1 := HO.cell 1 rfl
            go_wp2
            go_ret
            exact ⟨rfl, HO.below⟩
        · rw [show likeF _ _ = false from decide_eq_false (fun h => h2 (by injection h))]
          have e0 : ((x0 : Int) == y0) = true := by rw [h0]; simp
          have e1 : ((x1 : Int) == (y1 : Int)) = true := by rw [h1]; simp
          have e2 : ((x2 : Int) == (y2 : Int)) = false := by rw [beq_eq_false_iff_ne]; omega
          clear hk h0 h1 h2
          go_enter Try.func10, Try.ntmps10
          go_wp2_with fail
          refine (HE.out _ HO.below).mono ?_
          rintro e w1 ⟨rfl, hb⟩
          replace HO := HO.up hb
          clear hb c0 c1
          have c0 := HO.cell 0 rfl
          have c1 := HO.cell 1 rfl
          go_wp2
          go_ret
          exact ⟨rfl, HO.below⟩
      · rw [show likeF _ _ = false from decide_eq_false (fun h => h1 (by injection h))]
        have e0 : ((x0 : Int) == y0) = true := by rw [h0]; simp
        have e1 : ((x1 : Int) == (y1 : Int)) = false := by rw [beq_eq_false_iff_ne]; omega
        clear hk h0 h1
        go_enter Try.func10, Try.ntmps10
        go_wp2_with fail
        refine (HE.out _ HO.below).mono ?_
        rintro e w1 ⟨rfl, hb⟩
        replace HO := HO.up hb
        clear hb c0 c1
        have c0 := HO.cell 0 rfl
        have c1 := HO.cell 1 rfl
        go_wp2
        go_ret
        exact ⟨rfl, HO.below⟩
    · rw [show likeF _ _ = false from decide_eq_false (fun h => h0 (by injection h))]
      have e0 : ((x0 : Int) == y0) = false := by rw [beq_eq_false_iff_ne]; exact h0
      clear hk h0
      go_enter Try.func10, Try.ntmps10
      go_wp2_with fail
      refine (HE.out _ HO.below).mono ?_
      rintro e w1 ⟨rfl, hb⟩
      replace HO := HO.up hb
      clear hb c0 c1
      have c0 := HO.cell 0 rfl
      have c1 := HO.cell 1 rfl
      go_wp2
      go_ret
      exact ⟨rfl, HO.below⟩
  · rw [decide_eq_false hk] at HE
    rw [show likeF _ _ = false from decide_eq_false (fun h => hk (by injection h))]
    clear hk
    go_enter Try.func10, Try.ntmps10
    go_wp2_with fail
    refine (HE.out _ HO.below).mono ?_
    rintro e w1 ⟨rfl, hb⟩
    replace HO := HO.up hb
    clear hb c0 c1
    have c0 := HO.cell 0 rfl
    have c1 := HO.cell 1 rfl
    go_wp2
    go_ret
    exact ⟨rfl, HO.below⟩
end Go.Proofs.Ytfghjahmnjghgaa

set_option linter.unusedSimpArgs false
set_option linter.unusedVariables false
/- LAYER 8: whether a frame may be. -/
namespace Go.Proofs.Ytfghjahmnjghgaa
open Go.RowKit Go.Proofs.YtfghjahmnjghgaaW.PrintWords Go.Proofs.YtfghjahmnjghgaaW.PrintLast Go.Proofs.YtfghjahmnjghgaaW.PrintMore Go.Proofs.Ytfghjahmnjghgaa.PFr
theorem C_lit_strF (W : World) (e : TypeId) (l : List ByteArray) (hl : l.length ≤ 1000) : Kd.string.C (W.alloc (.cells (l.map Value.string).toArray e)) (some ⟨W.heap.size, 0, none⟩) l.length l :=
  (Kd.R_reads' (show Kd.string.R e (W.alloc (.cells (l.map Value.string).toArray e)) W.heap.size (fun _ => True) (.slice (some ⟨W.heap.size, 0, none⟩) l.length l.length) l from R_new_lit W W.heap.size e l (Nat.le_refl _) (by omega))).2.2
attribute [local irreducible] Calls
def f1S : ByteArray := ⟨#[116, 116, 110, 110, 116, 110, 110, 116]⟩
def f2S : ByteArray := ⟨#[116, 110, 110, 116]⟩
def f3S : ByteArray := ⟨#[42]⟩
set_option maxHeartbeats 1000000 in
theorem formats_any (w : World) : Calls Try.prog 26 #[] w fun e w' => e = .returned (.agg #[.string f1S, .string f2S, .string f3S]) ∧ Below w.heap.size w w' := by
  unfold f1S f2S f3S
  have HO := (Own.start w).alloc' (.cells #[.string ⟨#[116, 116, 110, 110, 116, 110, 110, 116]⟩, .string ⟨#[116, 110, 110, 116]⟩, .string ⟨#[42]⟩] 50) rfl
  go_enter Try.func26, Try.ntmps26
  go_wp2
  exact bodyPost_ret (v := .agg #[.string ⟨#[116, 116, 110, 110, 116, 110, 110, 116]⟩, .string ⟨#[116, 110, 110, 116]⟩, .string ⟨#[42]⟩]) (results_cell_row Try.results26 _ _ w.heap.size 50 _ (0, 0) _ (by rfl) (HO.blk 0 rfl) Try.underlying50 rfl (by kernel_rfl)) rfl ⟨rfl, HO.below⟩
set_option maxHeartbeats 8000000 in
set_option maxRecDepth 100000 in
theorem Right_neg (kd : Int) (hk : kd < 0) (a b c : Nat) (i ba : ByteArray) (sg on : Nat) (ra : ByteArray) (pv nn : Nat) (bo : ByteArray) (ks : List ByteArray) (A : Option Addr) (cp : Nat) (w : World) (hC : Kd.string.C w A ks.length ks) (hc : ks.length ≤ cp) (hn : ks.length ≤ 1000000) :
    Calls Try.prog 8 #[frV ⟨kd, a, b, c, i, ba, sg, on, ra, pv, nn, bo, ks⟩ (.slice A ks.length cp)] w fun e w' => e = .returned (.bool (rightF ⟨kd, a, b, c, i, ba, sg, on, ra, pv, nn, bo, ks⟩)) ∧ Below w.heap.size w w' := by
  rw [show rightF ⟨kd, a, b, c, i, ba, sg, on, ra, pv, nn, bo, ks⟩ = false from by
    unfold rightF
    dsimp only
    rw [show decide (0 ≤ kd) = false from decide_eq_false (by omega)]; rfl]
  unfold frV frC
  dsimp only
  generalize hnn : ks.length = n at *
  clear hC hc hn hnn
  have HFm := Lib.hid (fun w1 => formats_any w1)
  generalize f1S = s1' at *
  generalize f2S = s2' at *
  generalize f3S = s3' at *
  have k1 : kd < 0 := hk
  have HO := (Own.start w).alloc' (.cells #[.int .i64 kd, .int .u64 (a : Int), .int .u64 (b : Int), .int .u64 (c : Int), .string i, .string ba, .int .u64 (sg : Int), .int .u64 (on : Int), .string ra, .int .u64 (pv : Int), .int .u64 (nn : Int), .string bo, .slice A n cp] 25) rfl
  clear hk
  go_enter Try.func8, Try.ntmps8
  go_wp2_with fail
  refine kall [(0, true, some 5), (1, true, some 6), (2, true, some 7), (3, true, some 8), (4, true, some 9), (5, true, some 10), (6, true, some 11), (7, true, some 12), (8, true, some 13), (9, true, some 14), (10, true, some 15), (11, true, some 16), (12, true, some 17), (13, true, some 18), (14, true, some 19), (15, true, some 20), (16, true, some 21), (17, true, some 22)] (by kernel_rfl) rfl (by kernel_rfl) rfl (fun _ _ _ _ _ h => h) ?_
  (refine sP (v := ?_) (a' := ?_) rfl rfl (by rfl) ?_ ?_ ?_; rotate_left 2; (· intro w'; go_simp; with_reducible rfl); (· simp only [Act.put, List.setIfInBounds_toArray, List.set_cons_zero, List.set_cons_succ, kw64, kw32]; rfl))
  (refine sB (v := ?_) (a' := ?_) rfl rfl (by rfl) ?_ ?_ ?_; rotate_left 2; (· intro w1 hg; have c9 := (HO.up hg).cell 0 rfl; go_simp; with_reducible rfl); (· simp only [Act.put, List.setIfInBounds_toArray, List.set_cons_zero, List.set_cons_succ, kw64, kw32]; rfl))
  (refine sP (v := .bool true) (a' := ?_) rfl rfl (by rfl) ?_ ?_ ?_; rotate_left 1; (· intro w'; go_simp; first | done | rw [decide_eq_true k1]); (· simp only [Act.put, List.setIfInBounds_toArray, List.set_cons_zero, List.set_cons_succ, kw64, kw32]; rfl))
  (refine sP (v := ?_) (a' := ?_) rfl rfl (by rfl) ?_ ?_ ?_; rotate_left 2; (· intro w'; go_simp; with_reducible rfl); (· simp only [Act.put, List.setIfInBounds_toArray, List.set_cons_zero, List.set_cons_succ, kw64, kw32]; rfl))
  (refine sO (a' := ?_) rfl rfl (by rfl) ?_ ?_; rotate_left 1; (· simp only [Act.put, List.setIfInBounds_toArray, List.set_cons_zero, List.set_cons_succ, kw64, kw32]; rfl))
  (refine sO (a' := ?_) rfl rfl (by rfl) ?_ ?_; rotate_left 1; (· simp only [Act.put, List.setIfInBounds_toArray, List.set_cons_zero, List.set_cons_succ, kw64, kw32]; rfl))
  (refine sO (a' := ?_) rfl rfl (by rfl) ?_ ?_; rotate_left 1; (· simp only [Act.put, List.setIfInBounds_toArray, List.set_cons_zero, List.set_cons_succ, kw64, kw32]; rfl))
  (refine sO (a' := ?_) rfl rfl (by rfl) ?_ ?_; rotate_left 1; (· simp only [Act.put, List.setIfInBounds_toArray, List.set_cons_zero, List.set_cons_succ, kw64, kw32]; rfl))
  (refine sO (a' := ?_) rfl rfl (by rfl) ?_ ?_; rotate_left 1; (· simp only [Act.put, List.setIfInBounds_toArray, List.set_cons_zero, List.set_cons_succ, kw64, kw32]; rfl))
  (refine sP (v := ?_) (a' := ?_) rfl rfl (by rfl) ?_ ?_ ?_; rotate_left 2; (· intro w'; go_simp; with_reducible rfl); (· simp only [Act.put, List.setIfInBounds_toArray, List.set_cons_zero, List.set_cons_succ, kw64, kw32]; rfl))
  (refine sP (v := ?_) (a' := ?_) rfl rfl (by rfl) ?_ ?_ ?_; rotate_left 2; (· intro w'; go_simp; with_reducible rfl); (· simp only [Act.put, List.setIfInBounds_toArray, List.set_cons_zero, List.set_cons_succ, kw64, kw32]; rfl))
  (refine sO (a' := ?_) rfl rfl (by rfl) ?_ ?_; rotate_left 1; (· simp only [Act.put, List.setIfInBounds_toArray, List.set_cons_zero, List.set_cons_succ, kw64, kw32]; rfl))
  (refine sO (a' := ?_) rfl rfl (by rfl) ?_ ?_; rotate_left 1; (· simp only [Act.put, List.setIfInBounds_toArray, List.set_cons_zero, List.set_cons_succ, kw64, kw32]; rfl))
  (refine sO (a' := ?_) rfl rfl (by rfl) ?_ ?_; rotate_left 1; (· simp only [Act.put, List.setIfInBounds_toArray, List.set_cons_zero, List.set_cons_succ, kw64, kw32]; rfl))
  (refine sO (a' := ?_) rfl rfl (by rfl) ?_ ?_; rotate_left 1; (· simp only [Act.put, List.setIfInBounds_toArray, List.set_cons_zero, List.set_cons_succ, kw64, kw32]; rfl))
  (refine sO (a' := ?_) rfl rfl (by rfl) ?_ ?_; rotate_left 1; (· simp only [Act.put, List.setIfInBounds_toArray, List.set_cons_zero, List.set_cons_succ, kw64, kw32]; rfl))
  (refine sO (a' := ?_) rfl rfl (by rfl) ?_ ?_; rotate_left 1; (· simp only [Act.put, List.setIfInBounds_toArray, List.set_cons_zero, List.set_cons_succ, kw64, kw32]; rfl))
  (refine sP (v := ?_) (a' := ?_) rfl rfl (by rfl) ?_ ?_ ?_; rotate_left 2; (· intro w'; go_simp; with_reducible rfl); (· simp only [Act.put, List.setIfInBounds_toArray, List.set_cons_zero, List.set_cons_succ, kw64, kw32]; rfl))
  intro w1 hg
  replace HO := HO.up hg
  clear hg
  go_wp2
  go_ret
  exact ⟨rfl, HO.below⟩
set_option maxHeartbeats 8000000 in
set_option maxRecDepth 100000 in
theorem Right_big (kd : Int) (hk : 3 ≤ kd) (a b c : Nat) (i ba : ByteArray) (sg on : Nat) (ra : ByteArray) (pv nn : Nat) (bo : ByteArray) (ks : List ByteArray) (A : Option Addr) (cp : Nat) (w : World) (hC : Kd.string.C w A ks.length ks) (hc : ks.length ≤ cp) (hn : ks.length ≤ 1000000) :
    Calls Try.prog 8 #[frV ⟨kd, a, b, c, i, ba, sg, on, ra, pv, nn, bo, ks⟩ (.slice A ks.length cp)] w fun e w' => e = .returned (.bool (rightF ⟨kd, a, b, c, i, ba, sg, on, ra, pv, nn, bo, ks⟩)) ∧ Below w.heap.size w w' := by
  rw [show rightF ⟨kd, a, b, c, i, ba, sg, on, ra, pv, nn, bo, ks⟩ = false from by
    unfold rightF
    dsimp only
    rw [show decide (kd ≤ 2) = false from decide_eq_false (by omega)]; simp]
  unfold frV frC
  dsimp only
  generalize hnn : ks.length = n at *
  clear hC hc hn hnn
  have HFm := Lib.hid (fun w1 => formats_any w1)
  generalize f1S = s1' at *
  generalize f2S = s2' at *
  generalize f3S = s3' at *
  have k1 : ¬ (kd < 0) := by omega
  have k2 : kd ≥ 3 := hk
  have HO := (Own.start w).alloc' (.cells #[.int .i64 kd, .int .u64 (a : Int), .int .u64 (b : Int), .int .u64 (c : Int), .string i, .string ba, .int .u64 (sg : Int), .int .u64 (on : Int), .string ra, .int .u64 (pv : Int), .int .u64 (nn : Int), .string bo, .slice A n cp] 25) rfl
  clear hk
  go_enter Try.func8, Try.ntmps8
  go_wp2_with fail
  refine kall [(0, true, some 5), (1, true, some 6), (2, true, some 7), (3, true, some 8), (4, true, some 9), (5, true, some 10), (6, true, some 11), (7, true, some 12), (8, true, some 13), (9, true, some 14), (10, true, some 15), (11, true, some 16), (12, true, some 17), (13, true, some 18), (14, true, some 19), (15, true, some 20), (16, true, some 21), (17, true, some 22)] (by kernel_rfl) rfl (by kernel_rfl) rfl (fun _ _ _ _ _ h => h) ?_
  (refine sP (v := ?_) (a' := ?_) rfl rfl (by rfl) ?_ ?_ ?_; rotate_left 2; (· intro w'; go_simp; with_reducible rfl); (· simp only [Act.put, List.setIfInBounds_toArray, List.set_cons_zero, List.set_cons_succ, kw64, kw32]; rfl))
  (refine sB (v := ?_) (a' := ?_) rfl rfl (by rfl) ?_ ?_ ?_; rotate_left 2; (· intro w1 hg; have c9 := (HO.up hg).cell 0 rfl; go_simp; with_reducible rfl); (· simp only [Act.put, List.setIfInBounds_toArray, List.set_cons_zero, List.set_cons_succ, kw64, kw32]; rfl))
  (refine sP (v := .bool false) (a' := ?_) rfl rfl (by rfl) ?_ ?_ ?_; rotate_left 1; (· intro w'; go_simp; first | done | rw [decide_eq_false k1]); (· simp only [Act.put, List.setIfInBounds_toArray, List.set_cons_zero, List.set_cons_succ, kw64, kw32]; rfl))
  (refine sP (v := ?_) (a' := ?_) rfl rfl (by rfl) ?_ ?_ ?_; rotate_left 2; (· intro w'; go_simp; with_reducible rfl); (· simp only [Act.put, List.setIfInBounds_toArray, List.set_cons_zero, List.set_cons_succ, kw64, kw32]; rfl))
  (refine sP (v := ?_) (a' := ?_) rfl rfl (by rfl) ?_ ?_ ?_; rotate_left 2; (· intro w'; go_simp; with_reducible rfl); (· simp only [Act.put, List.setIfInBounds_toArray, List.set_cons_zero, List.set_cons_succ, kw64, kw32]; rfl))
  (refine sB (v := ?_) (a' := ?_) rfl rfl (by rfl) ?_ ?_ ?_; rotate_left 2; (· intro w1 hg; have c9 := (HO.up hg).cell 0 rfl; go_simp; with_reducible rfl); (· simp only [Act.put, List.setIfInBounds_toArray, List.set_cons_zero, List.set_cons_succ, kw64, kw32]; rfl))
  (refine sD (v := ?_) (a' := ?_) Try.func26 rfl rfl (by rfl) rfl (by kernel_rfl) rfl (by rfl) ?_ ?_ ?_; rotate_left 2; (· intro w1 hg; exact HFm.out w1); (· simp only [Act.put, List.setIfInBounds_toArray, List.set_cons_zero, List.set_cons_succ, kw64, kw32]; rfl))
  (refine sP (v := ?_) (a' := ?_) rfl rfl (by rfl) ?_ ?_ ?_; rotate_left 2; (· intro w'; go_simp; with_reducible rfl); (· simp only [Act.put, List.setIfInBounds_toArray, List.set_cons_zero, List.set_cons_succ, kw64, kw32]; rfl))
  (refine sP (v := .bool true) (a' := ?_) rfl rfl (by rfl) ?_ ?_ ?_; rotate_left 1; (· intro w'; go_simp; first | done | rw [decide_eq_true k2]); (· simp only [Act.put, List.setIfInBounds_toArray, List.set_cons_zero, List.set_cons_succ, kw64, kw32]; rfl))
  (refine sP (v := ?_) (a' := ?_) rfl rfl (by rfl) ?_ ?_ ?_; rotate_left 2; (· intro w'; go_simp; with_reducible rfl); (· simp only [Act.put, List.setIfInBounds_toArray, List.set_cons_zero, List.set_cons_succ, kw64, kw32]; rfl))
  (refine sP (v := ?_) (a' := ?_) rfl rfl (by rfl) ?_ ?_ ?_; rotate_left 2; (· intro w'; go_simp; with_reducible rfl); (· simp only [Act.put, List.setIfInBounds_toArray, List.set_cons_zero, List.set_cons_succ, kw64, kw32]; rfl))
  (refine sO (a' := ?_) rfl rfl (by rfl) ?_ ?_; rotate_left 1; (· simp only [Act.put, List.setIfInBounds_toArray, List.set_cons_zero, List.set_cons_succ, kw64, kw32]; rfl))
  (refine sO (a' := ?_) rfl rfl (by rfl) ?_ ?_; rotate_left 1; (· simp only [Act.put, List.setIfInBounds_toArray, List.set_cons_zero, List.set_cons_succ, kw64, kw32]; rfl))
  (refine sO (a' := ?_) rfl rfl (by rfl) ?_ ?_; rotate_left 1; (· simp only [Act.put, List.setIfInBounds_toArray, List.set_cons_zero, List.set_cons_succ, kw64, kw32]; rfl))
  (refine sO (a' := ?_) rfl rfl (by rfl) ?_ ?_; rotate_left 1; (· simp only [Act.put, List.setIfInBounds_toArray, List.set_cons_zero, List.set_cons_succ, kw64, kw32]; rfl))
  (refine sO (a' := ?_) rfl rfl (by rfl) ?_ ?_; rotate_left 1; (· simp only [Act.put, List.setIfInBounds_toArray, List.set_cons_zero, List.set_cons_succ, kw64, kw32]; rfl))
  (refine sO (a' := ?_) rfl rfl (by rfl) ?_ ?_; rotate_left 1; (· simp only [Act.put, List.setIfInBounds_toArray, List.set_cons_zero, List.set_cons_succ, kw64, kw32]; rfl))
  (refine sP (v := ?_) (a' := ?_) rfl rfl (by rfl) ?_ ?_ ?_; rotate_left 2; (· intro w'; go_simp; with_reducible rfl); (· simp only [Act.put, List.setIfInBounds_toArray, List.set_cons_zero, List.set_cons_succ, kw64, kw32]; rfl))
  intro w1 hg
  replace HO := HO.up hg
  clear hg
  go_wp2
  go_ret
  exact ⟨rfl, HO.below⟩
set_option maxHeartbeats 8000000 in
set_option maxRecDepth 100000 in
theorem Right_k1 (a b c : Nat) (i ba : ByteArray) (sg on : Nat) (ra : ByteArray) (pv nn : Nat) (bo : ByteArray) (ks : List ByteArray) (A : Option Addr) (cp : Nat) (w : World) (hC : Kd.string.C w A ks.length ks) (hc : ks.length ≤ cp) (hn : ks.length ≤ 1000000) :
    Calls Try.prog 8 #[frV ⟨1, a, b, c, i, ba, sg, on, ra, pv, nn, bo, ks⟩ (.slice A ks.length cp)] w fun e w' => e = .returned (.bool (rightF ⟨1, a, b, c, i, ba, sg, on, ra, pv, nn, bo, ks⟩)) ∧ Below w.heap.size w w' := by
  have HFm := Lib.hid (fun w1 => formats_any w1)
  generalize f1S = s1' at *
  generalize f2S = s2' at *
  generalize f3S = s3' at *
  have hR : rightF ⟨1, a, b, c, i, ba, sg, on, ra, pv, nn, bo, ks⟩ = (likeF ⟨1, a, b, c, i, ba, sg, on, ra, pv, nn, bo, ks⟩ (ofF ⟨1, a, b, c, i, ba, sg, on, ra, pv, nn, bo, ks⟩) && decide (bo.size ≤ 1024) && decide (ks.length ≤ 32) && !(oddL [ra])) := by
    unfold rightF pointsF
    dsimp only
    rw [show decide ((0 : Int) ≤ 1) = true from rfl, show decide ((1 : Int) ≤ 2) = true from rfl, Bool.true_and, Bool.true_and]
    rfl
  rw [hR]
  clear hR
  have HP := Lib.hid (fun w1 (hg : Below w.heap.size w w1) => parts_any ⟨1, a, b, c, i, ba, sg, on, ra, pv, nn, bo, ks⟩ (show (0 : Int) ≤ 1 by decide) (show (1 : Int) ≤ 2 by decide) A cp w1 (Kd.C_below hC hg) hc hn)
  have HF := Lib.hid (fun B d w1 hB hd => of_any ⟨1, a, b, c, i, ba, sg, on, ra, pv, nn, bo, ks⟩ (show (0 : Int) ≤ 1 by decide) (show (1 : Int) ≤ 2 by decide) B d w1 hB hd hn)
  have HLk := Lib.hid (fun B d w1 (hg : Below w.heap.size w w1) hD hd => Like_any ⟨1, a, b, c, i, ba, sg, on, ra, pv, nn, bo, ks⟩ (ofF ⟨1, a, b, c, i, ba, sg, on, ra, pv, nn, bo, ks⟩) A cp B d w1 (Kd.C_below hC hg) hc hD hd hn)
  have HCk := Lib.hid (fun w1 (hg : Below w.heap.size w w1) => Kd.C_below hC hg)
  rw [show frV ⟨1, a, b, c, i, ba, sg, on, ra, pv, nn, bo, ks⟩ (.slice A ks.length cp) = .agg #[.int .i64 1, .int .u64 (a : Int), .int .u64 (b : Int), .int .u64 (c : Int), .string i, .string ba, .int .u64 (sg : Int), .int .u64 (on : Int), .string ra, .int .u64 (pv : Int), .int .u64 (nn : Int), .string bo, .slice A ks.length cp] from rfl] at HP HLk ⊢
  generalize likeF ⟨1, a, b, c, i, ba, sg, on, ra, pv, nn, bo, ks⟩ (ofF ⟨1, a, b, c, i, ba, sg, on, ra, pv, nn, bo, ks⟩) = lk at *
  generalize hfo : ofF ⟨1, a, b, c, i, ba, sg, on, ra, pv, nn, bo, ks⟩ = g at *
  generalize hpl : partsP ⟨1, a, b, c, i, ba, sg, on, ra, pv, nn, bo, ks⟩ = pl at *
  have HN := Lib.hid hn
  have HNC := Lib.hid hc
  clear hC hc hn hfo hpl
  generalize hnn : ks.length = n at *
  have HNN := Lib.hid hnn
  clear hnn
  have HO := (Own.start w).alloc' (.cells #[.int .i64 1, .int .u64 (a : Int), .int .u64 (b : Int), .int .u64 (c : Int), .string i, .string ba, .int .u64 (sg : Int), .int .u64 (on : Int), .string ra, .int .u64 (pv : Int), .int .u64 (nn : Int), .string bo, .slice A n cp] 25) rfl
  go_enter Try.func8, Try.ntmps8
  go_wp2_with fail
  refine bstart (fun w => w.heap.size) (n := 18) (ds := []) #[false, false, false, false, false, false, false, false, false, false, false, false, false, false, false, false, false, false] (by kernel_rfl) rfl rfl (Nat.le_refl _) (fun HBS => ?_)
  refine bseq (m := 5) (.inl rfl) [(0, true, some 5), (1, true, some 6), (2, true, some 7), (3, true, some 8), (4, true, some 9), (5, true, some 10), (6, true, some 11), (7, true, some 12), (8, true, some 13), (9, true, some 14), (10, true, some 15), (11, true, some 16), (12, true, some 17)] #[true, true, true, true, true, true, true, true, true, true, true, true, true, false, false, false, false, false] HBS (by kernel_rfl) rfl (fun _ _ _ _ _ h => h) ?_
  (refine sP (v := ?_) (a' := ?_) rfl rfl (by rfl) ?_ ?_ ?_; rotate_left 2; (· intro w'; go_simp; with_reducible rfl); (· simp only [Act.put, List.setIfInBounds_toArray, List.set_cons_zero, List.set_cons_succ, kw64, kw32]; rfl))
  (refine sB (v := ?_) (a' := ?_) rfl rfl (by rfl) ?_ ?_ ?_; rotate_left 2; (· intro w1 hg; have c9 := (HO.up hg).cell 0 rfl; go_simp; with_reducible rfl); (· simp only [Act.put, List.setIfInBounds_toArray, List.set_cons_zero, List.set_cons_succ, kw64, kw32]; rfl))
  (refine sP (v := ?_) (a' := ?_) rfl rfl (by rfl) ?_ ?_ ?_; rotate_left 2; (· intro w'; go_simp; with_reducible rfl); (· simp only [Act.put, List.setIfInBounds_toArray, List.set_cons_zero, List.set_cons_succ, kw64, kw32]; rfl))
  (refine sP (v := ?_) (a' := ?_) rfl rfl (by rfl) ?_ ?_ ?_; rotate_left 2; (· intro w'; go_simp; with_reducible rfl); (· simp only [Act.put, List.setIfInBounds_toArray, List.set_cons_zero, List.set_cons_succ, kw64, kw32]; rfl))
  (refine sP (v := ?_) (a' := ?_) rfl rfl (by rfl) ?_ ?_ ?_; rotate_left 2; (· intro w'; go_simp; with_reducible rfl); (· simp only [Act.put, List.setIfInBounds_toArray, List.set_cons_zero, List.set_cons_succ, kw64, kw32]; rfl))
  (refine sB (v := ?_) (a' := ?_) rfl rfl (by rfl) ?_ ?_ ?_; rotate_left 2; (· intro w1 hg; have c9 := (HO.up hg).cell 0 rfl; go_simp; with_reducible rfl); (· simp only [Act.put, List.setIfInBounds_toArray, List.set_cons_zero, List.set_cons_succ, kw64, kw32]; rfl))
  (refine sD (v := ?_) (a' := ?_) Try.func26 rfl rfl (by rfl) rfl (by kernel_rfl) rfl (by rfl) ?_ ?_ ?_; rotate_left 2; (· intro w1 hg; exact HFm.out w1); (· simp only [Act.put, List.setIfInBounds_toArray, List.set_cons_zero, List.set_cons_succ, kw64, kw32]; rfl))
  (refine sP (v := ?_) (a' := ?_) rfl rfl (by rfl) ?_ ?_ ?_; rotate_left 2; (· intro w'; go_simp; with_reducible rfl); (· simp only [Act.put, List.setIfInBounds_toArray, List.set_cons_zero, List.set_cons_succ, kw64, kw32]; rfl))
  (refine sP (v := ?_) (a' := ?_) rfl rfl (by rfl) ?_ ?_ ?_; rotate_left 2; (· intro w'; go_simp; with_reducible rfl); (· simp only [Act.put, List.setIfInBounds_toArray, List.set_cons_zero, List.set_cons_succ, kw64, kw32]; rfl))
  (refine sP (v := ?_) (a' := ?_) rfl rfl (by rfl) ?_ ?_ ?_; rotate_left 2; (· intro w'; go_simp; with_reducible rfl); (· simp only [Act.put, List.setIfInBounds_toArray, List.set_cons_zero, List.set_cons_succ, kw64, kw32]; rfl))
  (refine sP (v := ?_) (a' := ?_) rfl rfl (by rfl) ?_ ?_ ?_; rotate_left 2; (· intro w'; go_simp; with_reducible rfl); (· simp only [Act.put, List.setIfInBounds_toArray, List.set_cons_zero, List.set_cons_succ, kw64, kw32]; rfl))
  (refine sB (v := ?_) (a' := ?_) rfl rfl (by rfl) ?_ ?_ ?_; rotate_left 2; (· intro w1 hg; (refine Eq.trans (run_load_row 25 (.tmp 1) rfl w.heap.size (by rfl) _ #[.int .i64 1, .int .u64 (a : Int), .int .u64 (b : Int), .int .u64 (c : Int), .string i, .string ba, .int .u64 (sg : Int), .int .u64 (on : Int), .string ra, .int .u64 (pv : Int), .int .u64 (nn : Int), .string bo, .slice A n cp] _ _ ((HO.up hg).blk 0 rfl) Try.underlying25 rfl (by kernel_rfl)) ?_; with_reducible rfl)); (· simp only [Act.put, List.setIfInBounds_toArray, List.set_cons_zero, List.set_cons_succ, kw64, kw32]; rfl))
  (refine sB (v := ?_) (a' := ?_) rfl rfl (by rfl) ?_ ?_ ?_; rotate_left 2; (· intro w1 hg; (refine Eq.trans (run_load_row 25 (.tmp 1) rfl w.heap.size (by rfl) _ #[.int .i64 1, .int .u64 (a : Int), .int .u64 (b : Int), .int .u64 (c : Int), .string i, .string ba, .int .u64 (sg : Int), .int .u64 (on : Int), .string ra, .int .u64 (pv : Int), .int .u64 (nn : Int), .string bo, .slice A n cp] _ _ ((HO.up hg).blk 0 rfl) Try.underlying25 rfl (by kernel_rfl)) ?_; with_reducible rfl)); (· simp only [Act.put, List.setIfInBounds_toArray, List.set_cons_zero, List.set_cons_succ, kw64, kw32]; rfl))
  refine bone (i := 13) (N := (some 18)) #[true, true, true, true, true, true, true, true, true, true, true, true, true, true, false, false, false, false] rfl rfl (by kernel_rfl) HBS (fun w1 hg K hK => ?_)
  rw [if_pos (by rfl)]
  replace HO := HO.up hg
  refine wp_call Try.func24 rfl (by kernel_rfl) rfl (by rfl) ((HP.out w1 HO.below).mono ?_)
  rintro e w2 ⟨⟨B, d, rfl, hd, hB⟩, hb⟩
  refine ⟨_, rfl, hK _ _ (not_ds (by decide) hb) (fun HBS => ?_)⟩
  replace HO := HO.up hb
  refine at_dst (some 18) rfl ?_
  simp only [Act.put, List.setIfInBounds_toArray, List.set_cons_zero, List.set_cons_succ]
  refine bone (i := 14) (N := (some 19)) #[true, true, true, true, true, true, true, true, true, true, true, true, true, true, true, false, false, false] rfl rfl (by kernel_rfl) HBS (fun w1 hg K hK => ?_)
  rw [if_pos (by rfl)]
  replace HO := HO.up hg
  refine wp_call Try.func27 rfl (by kernel_rfl) rfl (by rfl) ((HF.out B d w1 (Kd.C_below hB (Below.mono hg (Nat.le_refl _))) hd).mono ?_)
  rintro e w2 ⟨⟨v, rfl, A2, c2, rfl, hl2, _, hC2⟩, hb⟩
  refine ⟨_, rfl, hK _ _ (not_ds (by decide) hb) (fun HBS => ?_)⟩
  replace HO := HO.up hb
  refine at_dst (some 19) rfl ?_
  simp only [Act.put, List.setIfInBounds_toArray, List.set_cons_zero, List.set_cons_succ]
  refine bseq (m := 0) (.inl rfl) [(15, false, some 20), (16, true, some 21), (17, true, some 22)] #[true, true, true, true, true, true, true, true, true, true, true, true, true, true, true, true, true, true] HBS (by kernel_rfl) rfl (fun _ _ _ _ _ h => h) ?_
  (refine sC (v := ?_) (a' := ?_) Try.func10 rfl rfl (by rfl) rfl (by kernel_rfl) rfl (by rfl) ?_ ?_ ?_; rotate_left 2; (· intro w1 hg; exact HLk.out A2 c2 w1 (HO.up hg).below (Kd.C_below hC2 hg) hl2); (· simp only [Act.put, List.setIfInBounds_toArray, List.set_cons_zero, List.set_cons_succ, kw64, kw32]; rfl))
  (refine sP (v := ?_) (a' := ?_) rfl rfl (by rfl) ?_ ?_ ?_; rotate_left 2; (· intro w'; go_simp; with_reducible rfl); (· simp only [Act.put, List.setIfInBounds_toArray, List.set_cons_zero, List.set_cons_succ, kw64, kw32]; rfl))
  (refine sP (v := ?_) (a' := ?_) rfl rfl (by rfl) ?_ ?_ ?_; rotate_left 2; (· intro w'; go_simp; with_reducible rfl); (· simp only [Act.put, List.setIfInBounds_toArray, List.set_cons_zero, List.set_cons_succ, kw64, kw32]; rfl))
  refine bdone (by kernel_rfl) (fun w1 hg => ?_)
  replace HO := HO.up hg
  clear hg HP HF HLk HFm
  cases lk with
  | false =>
    go_wp2
    go_ret
    exact ⟨rfl, HO.below⟩
  | true =>
    have hsz : (w1.alloc (.cells #[.string ra] 9)).heap.size = w1.heap.size + 1 := by simp
    have HCL := Lib.hid (C_lit_strF w1 9 [ra] (by simp))
    have HBL := Lib.hid (below_alloc HO.below (.cells #[.string ra] 9))
    clear hsz
    by_cases hb : bo.size ≤ 1024
    · have e1 : (bo.size : Int) ≤ 1024 := by omega
      have HB1 := Lib.hid hb
      clear hb
      by_cases hk : n ≤ 32
      · have e2 : (n : Int) ≤ 32 := by omega
        have HK1 := Lib.hid hk
        clear hk
        have c0 := HO.cell 0 rfl
        have cA := (HO.alloc' (.cells #[.string ra] 9) rfl).cell 1 rfl
        go_wp2_with fail
        refine (ContainsFunc_any _ 1 1 [ra] _ HCL.out (by decide)).mono ?_
        rintro e w5 ⟨rfl, rfl⟩
        go_wp2
        go_ret
        exact ⟨by rw [decide_eq_true HB1.out, decide_eq_true HK1.out]; rfl, HBL.out⟩
      · have e2 : ¬ ((n : Int) ≤ 32) := by omega
        have HK1 := Lib.hid hk
        clear hk
        have c0 := HO.cell 0 rfl
        have cA := (HO.alloc' (.cells #[.string ra] 9) rfl).cell 1 rfl
        go_wp2
        go_ret
        exact ⟨by rw [decide_eq_true HB1.out, decide_eq_false HK1.out]; rfl, HBL.out⟩
    · have e1 : ¬ ((bo.size : Int) ≤ 1024) := by omega
      have HB1 := Lib.hid hb
      clear hb
      have c0 := HO.cell 0 rfl
      have cA := (HO.alloc' (.cells #[.string ra] 9) rfl).cell 1 rfl
      go_wp2
      go_ret
      exact ⟨by rw [decide_eq_false HB1.out]; rfl, HBL.out⟩
set_option maxHeartbeats 8000000 in
set_option maxRecDepth 100000 in
theorem Right_k2 (a b c : Nat) (i ba : ByteArray) (sg on : Nat) (ra : ByteArray) (pv nn : Nat) (bo : ByteArray) (ks : List ByteArray) (A : Option Addr) (cp : Nat) (w : World) (hC : Kd.string.C w A ks.length ks) (hc : ks.length ≤ cp) (hn : ks.length ≤ 1000000) :
    Calls Try.prog 8 #[frV ⟨2, a, b, c, i, ba, sg, on, ra, pv, nn, bo, ks⟩ (.slice A ks.length cp)] w fun e w' => e = .returned (.bool (rightF ⟨2, a, b, c, i, ba, sg, on, ra, pv, nn, bo, ks⟩)) ∧ Below w.heap.size w w' := by
  have HFm := Lib.hid (fun w1 => formats_any w1)
  generalize f1S = s1' at *
  generalize f2S = s2' at *
  generalize f3S = s3' at *
  have hR : rightF ⟨2, a, b, c, i, ba, sg, on, ra, pv, nn, bo, ks⟩ = (likeF ⟨2, a, b, c, i, ba, sg, on, ra, pv, nn, bo, ks⟩ (ofF ⟨2, a, b, c, i, ba, sg, on, ra, pv, nn, bo, ks⟩) && decide (bo.size ≤ 1024) && decide (ks.length ≤ 32) && !(oddL ks)) := by
    unfold rightF pointsF
    dsimp only
    rw [show decide ((0 : Int) ≤ 2) = true from rfl, show decide ((2 : Int) ≤ 2) = true from rfl, Bool.true_and, Bool.true_and]
    rfl
  rw [hR]
  clear hR
  have HP := Lib.hid (fun w1 (hg : Below w.heap.size w w1) => parts_any ⟨2, a, b, c, i, ba, sg, on, ra, pv, nn, bo, ks⟩ (show (0 : Int) ≤ 2 by decide) (show (2 : Int) ≤ 2 by decide) A cp w1 (Kd.C_below hC hg) hc hn)
  have HF := Lib.hid (fun B d w1 hB hd => of_any ⟨2, a, b, c, i, ba, sg, on, ra, pv, nn, bo, ks⟩ (show (0 : Int) ≤ 2 by decide) (show (2 : Int) ≤ 2 by decide) B d w1 hB hd hn)
  have HLk := Lib.hid (fun B d w1 (hg : Below w.heap.size w w1) hD hd => Like_any ⟨2, a, b, c, i, ba, sg, on, ra, pv, nn, bo, ks⟩ (ofF ⟨2, a, b, c, i, ba, sg, on, ra, pv, nn, bo, ks⟩) A cp B d w1 (Kd.C_below hC hg) hc hD hd hn)
  have HCk := Lib.hid (fun w1 (hg : Below w.heap.size w w1) => Kd.C_below hC hg)
  rw [show frV ⟨2, a, b, c, i, ba, sg, on, ra, pv, nn, bo, ks⟩ (.slice A ks.length cp) = .agg #[.int .i64 2, .int .u64 (a : Int), .int .u64 (b : Int), .int .u64 (c : Int), .string i, .string ba, .int .u64 (sg : Int), .int .u64 (on : Int), .string ra, .int .u64 (pv : Int), .int .u64 (nn : Int), .string bo, .slice A ks.length cp] from rfl] at HP HLk ⊢
  generalize likeF ⟨2, a, b, c, i, ba, sg, on, ra, pv, nn, bo, ks⟩ (ofF ⟨2, a, b, c, i, ba, sg, on, ra, pv, nn, bo, ks⟩) = lk at *
  generalize hfo : ofF ⟨2, a, b, c, i, ba, sg, on, ra, pv, nn, bo, ks⟩ = g at *
  generalize hpl : partsP ⟨2, a, b, c, i, ba, sg, on, ra, pv, nn, bo, ks⟩ = pl at *
  have HN := Lib.hid hn
  have HNC := Lib.hid hc
  clear hC hc hn hfo hpl
  generalize hnn : ks.length = n at *
  have HNN := Lib.hid hnn
  clear hnn
  have HO := (Own.start w).alloc' (.cells #[.int .i64 2, .int .u64 (a : Int), .int .u64 (b : Int), .int .u64 (c : Int), .string i, .string ba, .int .u64 (sg : Int), .int .u64 (on : Int), .string ra, .int .u64 (pv : Int), .int .u64 (nn : Int), .string bo, .slice A n cp] 25) rfl
  go_enter Try.func8, Try.ntmps8
  go_wp2_with fail
  refine bstart (fun w => w.heap.size) (n := 18) (ds := []) #[false, false, false, false, false, false, false, false, false, false, false, false, false, false, false, false, false, false] (by kernel_rfl) rfl rfl (Nat.le_refl _) (fun HBS => ?_)
  refine bseq (m := 5) (.inl rfl) [(0, true, some 5), (1, true, some 6), (2, true, some 7), (3, true, some 8), (4, true, some 9), (5, true, some 10), (6, true, some 11), (7, true, some 12), (8, true, some 13), (9, true, some 14), (10, true, some 15), (11, true, some 16), (12, true, some 17)] #[true, true, true, true, true, true, true, true, true, true, true, true, true, false, false, false, false, false] HBS (by kernel_rfl) rfl (fun _ _ _ _ _ h => h) ?_
  (refine sP (v := ?_) (a' := ?_) rfl rfl (by rfl) ?_ ?_ ?_; rotate_left 2; (· intro w'; go_simp; with_reducible rfl); (· simp only [Act.put, List.setIfInBounds_toArray, List.set_cons_zero, List.set_cons_succ, kw64, kw32]; rfl))
  (refine sB (v := ?_) (a' := ?_) rfl rfl (by rfl) ?_ ?_ ?_; rotate_left 2; (· intro w1 hg; have c9 := (HO.up hg).cell 0 rfl; go_simp; with_reducible rfl); (· simp only [Act.put, List.setIfInBounds_toArray, List.set_cons_zero, List.set_cons_succ, kw64, kw32]; rfl))
  (refine sP (v := ?_) (a' := ?_) rfl rfl (by rfl) ?_ ?_ ?_; rotate_left 2; (· intro w'; go_simp; with_reducible rfl); (· simp only [Act.put, List.setIfInBounds_toArray, List.set_cons_zero, List.set_cons_succ, kw64, kw32]; rfl))
  (refine sP (v := ?_) (a' := ?_) rfl rfl (by rfl) ?_ ?_ ?_; rotate_left 2; (· intro w'; go_simp; with_reducible rfl); (· simp only [Act.put, List.setIfInBounds_toArray, List.set_cons_zero, List.set_cons_succ, kw64, kw32]; rfl))
  (refine sP (v := ?_) (a' := ?_) rfl rfl (by rfl) ?_ ?_ ?_; rotate_left 2; (· intro w'; go_simp; with_reducible rfl); (· simp only [Act.put, List.setIfInBounds_toArray, List.set_cons_zero, List.set_cons_succ, kw64, kw32]; rfl))
  (refine sB (v := ?_) (a' := ?_) rfl rfl (by rfl) ?_ ?_ ?_; rotate_left 2; (· intro w1 hg; have c9 := (HO.up hg).cell 0 rfl; go_simp; with_reducible rfl); (· simp only [Act.put, List.setIfInBounds_toArray, List.set_cons_zero, List.set_cons_succ, kw64, kw32]; rfl))
  (refine sD (v := ?_) (a' := ?_) Try.func26 rfl rfl (by rfl) rfl (by kernel_rfl) rfl (by rfl) ?_ ?_ ?_; rotate_left 2; (· intro w1 hg; exact HFm.out w1); (· simp only [Act.put, List.setIfInBounds_toArray, List.set_cons_zero, List.set_cons_succ, kw64, kw32]; rfl))
  (refine sP (v := ?_) (a' := ?_) rfl rfl (by rfl) ?_ ?_ ?_; rotate_left 2; (· intro w'; go_simp; with_reducible rfl); (· simp only [Act.put, List.setIfInBounds_toArray, List.set_cons_zero, List.set_cons_succ, kw64, kw32]; rfl))
  (refine sP (v := ?_) (a' := ?_) rfl rfl (by rfl) ?_ ?_ ?_; rotate_left 2; (· intro w'; go_simp; with_reducible rfl); (· simp only [Act.put, List.setIfInBounds_toArray, List.set_cons_zero, List.set_cons_succ, kw64, kw32]; rfl))
  (refine sP (v := ?_) (a' := ?_) rfl rfl (by rfl) ?_ ?_ ?_; rotate_left 2; (· intro w'; go_simp; with_reducible rfl); (· simp only [Act.put, List.setIfInBounds_toArray, List.set_cons_zero, List.set_cons_succ, kw64, kw32]; rfl))
  (refine sP (v := ?_) (a' := ?_) rfl rfl (by rfl) ?_ ?_ ?_; rotate_left 2; (· intro w'; go_simp; with_reducible rfl); (· simp only [Act.put, List.setIfInBounds_toArray, List.set_cons_zero, List.set_cons_succ, kw64, kw32]; rfl))
  (refine sB (v := ?_) (a' := ?_) rfl rfl (by rfl) ?_ ?_ ?_; rotate_left 2; (· intro w1 hg; (refine Eq.trans (run_load_row 25 (.tmp 1) rfl w.heap.size (by rfl) _ #[.int .i64 2, .int .u64 (a : Int), .int .u64 (b : Int), .int .u64 (c : Int), .string i, .string ba, .int .u64 (sg : Int), .int .u64 (on : Int), .string ra, .int .u64 (pv : Int), .int .u64 (nn : Int), .string bo, .slice A n cp] _ _ ((HO.up hg).blk 0 rfl) Try.underlying25 rfl (by kernel_rfl)) ?_; with_reducible rfl)); (· simp only [Act.put, List.setIfInBounds_toArray, List.set_cons_zero, List.set_cons_succ, kw64, kw32]; rfl))
  (refine sB (v := ?_) (a' := ?_) rfl rfl (by rfl) ?_ ?_ ?_; rotate_left 2; (· intro w1 hg; (refine Eq.trans (run_load_row 25 (.tmp 1) rfl w.heap.size (by rfl) _ #[.int .i64 2, .int .u64 (a : Int), .int .u64 (b : Int), .int .u64 (c : Int), .string i, .string ba, .int .u64 (sg : Int), .int .u64 (on : Int), .string ra, .int .u64 (pv : Int), .int .u64 (nn : Int), .string bo, .slice A n cp] _ _ ((HO.up hg).blk 0 rfl) Try.underlying25 rfl (by kernel_rfl)) ?_; with_reducible rfl)); (· simp only [Act.put, List.setIfInBounds_toArray, List.set_cons_zero, List.set_cons_succ, kw64, kw32]; rfl))
  refine bone (i := 13) (N := (some 18)) #[true, true, true, true, true, true, true, true, true, true, true, true, true, true, false, false, false, false] rfl rfl (by kernel_rfl) HBS (fun w1 hg K hK => ?_)
  rw [if_pos (by rfl)]
  replace HO := HO.up hg
  refine wp_call Try.func24 rfl (by kernel_rfl) rfl (by rfl) ((HP.out w1 HO.below).mono ?_)
  rintro e w2 ⟨⟨B, d, rfl, hd, hB⟩, hb⟩
  refine ⟨_, rfl, hK _ _ (not_ds (by decide) hb) (fun HBS => ?_)⟩
  replace HO := HO.up hb
  refine at_dst (some 18) rfl ?_
  simp only [Act.put, List.setIfInBounds_toArray, List.set_cons_zero, List.set_cons_succ]
  refine bone (i := 14) (N := (some 19)) #[true, true, true, true, true, true, true, true, true, true, true, true, true, true, true, false, false, false] rfl rfl (by kernel_rfl) HBS (fun w1 hg K hK => ?_)
  rw [if_pos (by rfl)]
  replace HO := HO.up hg
  refine wp_call Try.func27 rfl (by kernel_rfl) rfl (by rfl) ((HF.out B d w1 (Kd.C_below hB (Below.mono hg (Nat.le_refl _))) hd).mono ?_)
  rintro e w2 ⟨⟨v, rfl, A2, c2, rfl, hl2, _, hC2⟩, hb⟩
  refine ⟨_, rfl, hK _ _ (not_ds (by decide) hb) (fun HBS => ?_)⟩
  replace HO := HO.up hb
  refine at_dst (some 19) rfl ?_
  simp only [Act.put, List.setIfInBounds_toArray, List.set_cons_zero, List.set_cons_succ]
  refine bseq (m := 0) (.inl rfl) [(15, false, some 20), (16, true, some 21), (17, true, some 22)] #[true, true, true, true, true, true, true, true, true, true, true, true, true, true, true, true, true, true] HBS (by kernel_rfl) rfl (fun _ _ _ _ _ h => h) ?_
  (refine sC (v := ?_) (a' := ?_) Try.func10 rfl rfl (by rfl) rfl (by kernel_rfl) rfl (by rfl) ?_ ?_ ?_; rotate_left 2; (· intro w1 hg; exact HLk.out A2 c2 w1 (HO.up hg).below (Kd.C_below hC2 hg) hl2); (· simp only [Act.put, List.setIfInBounds_toArray, List.set_cons_zero, List.set_cons_succ, kw64, kw32]; rfl))
  (refine sP (v := ?_) (a' := ?_) rfl rfl (by rfl) ?_ ?_ ?_; rotate_left 2; (· intro w'; go_simp; with_reducible rfl); (· simp only [Act.put, List.setIfInBounds_toArray, List.set_cons_zero, List.set_cons_succ, kw64, kw32]; rfl))
  (refine sP (v := ?_) (a' := ?_) rfl rfl (by rfl) ?_ ?_ ?_; rotate_left 2; (· intro w'; go_simp; with_reducible rfl); (· simp only [Act.put, List.setIfInBounds_toArray, List.set_cons_zero, List.set_cons_succ, kw64, kw32]; rfl))
  refine bdone (by kernel_rfl) (fun w1 hg => ?_)
  replace HO := HO.up hg
  clear hg HP HF HLk HFm
  cases lk with
  | false =>
    go_wp2
    go_ret
    exact ⟨rfl, HO.below⟩
  | true =>
    have HCL := Lib.hid (HCk.out _ HO.below)
    have HBL := Lib.hid HO.below
    by_cases hb : bo.size ≤ 1024
    · have e1 : (bo.size : Int) ≤ 1024 := by omega
      have HB1 := Lib.hid hb
      clear hb
      by_cases hk : n ≤ 32
      · have e2 : (n : Int) ≤ 32 := by omega
        have HK1 := Lib.hid hk
        clear hk
        have c0 := HO.cell 0 rfl
        go_wp2_with fail
        refine (ContainsFunc_any _ n cp ks _ HCL.out HN.out).mono ?_
        rintro e w5 ⟨rfl, rfl⟩
        go_wp2
        go_ret
        exact ⟨by rw [decide_eq_true HB1.out, decide_eq_true HK1.out]; rfl, HBL.out⟩
      · have e2 : ¬ ((n : Int) ≤ 32) := by omega
        have HK1 := Lib.hid hk
        clear hk
        have c0 := HO.cell 0 rfl
        go_wp2
        go_ret
        exact ⟨by rw [decide_eq_true HB1.out, decide_eq_false HK1.out]; rfl, HBL.out⟩
    · have e1 : ¬ ((bo.size : Int) ≤ 1024) := by omega
      have HB1 := Lib.hid hb
      clear hb
      have c0 := HO.cell 0 rfl
      go_wp2
      go_ret
      exact ⟨by rw [decide_eq_false HB1.out]; rfl, HBL.out⟩
set_option maxHeartbeats 8000000 in
set_option maxRecDepth 100000 in
theorem Right_k0 (a b c : Nat) (i ba : ByteArray) (sg on : Nat) (ra : ByteArray) (pv nn : Nat) (bo : ByteArray) (ks : List ByteArray) (A : Option Addr) (cp : Nat) (w : World) (hC : Kd.string.C w A ks.length ks) (hc : ks.length ≤ cp) (hn : ks.length ≤ 1000000) :
    Calls Try.prog 8 #[frV ⟨0, a, b, c, i, ba, sg, on, ra, pv, nn, bo, ks⟩ (.slice A ks.length cp)] w fun e w' => e = .returned (.bool (rightF ⟨0, a, b, c, i, ba, sg, on, ra, pv, nn, bo, ks⟩)) ∧ Below w.heap.size w w' := by
  have HFm := Lib.hid (fun w1 => formats_any w1)
  generalize f1S = s1' at *
  generalize f2S = s2' at *
  generalize f3S = s3' at *
  have hR : rightF ⟨0, a, b, c, i, ba, sg, on, ra, pv, nn, bo, ks⟩ = (likeF ⟨0, a, b, c, i, ba, sg, on, ra, pv, nn, bo, ks⟩ (ofF ⟨0, a, b, c, i, ba, sg, on, ra, pv, nn, bo, ks⟩) && decide (bo.size ≤ 1024) && decide (ks.length ≤ 32) && !(oddL [ra, i, ba])) := by
    unfold rightF pointsF
    dsimp only
    rw [show decide ((0 : Int) ≤ 0) = true from rfl, show decide ((0 : Int) ≤ 2) = true from rfl, Bool.true_and, Bool.true_and]
    rfl
  rw [hR]
  clear hR
  have HP := Lib.hid (fun w1 (hg : Below w.heap.size w w1) => parts_any ⟨0, a, b, c, i, ba, sg, on, ra, pv, nn, bo, ks⟩ (show (0 : Int) ≤ 0 by decide) (show (0 : Int) ≤ 2 by decide) A cp w1 (Kd.C_below hC hg) hc hn)
  have HF := Lib.hid (fun B d w1 hB hd => of_any ⟨0, a, b, c, i, ba, sg, on, ra, pv, nn, bo, ks⟩ (show (0 : Int) ≤ 0 by decide) (show (0 : Int) ≤ 2 by decide) B d w1 hB hd hn)
  have HLk := Lib.hid (fun B d w1 (hg : Below w.heap.size w w1) hD hd => Like_any ⟨0, a, b, c, i, ba, sg, on, ra, pv, nn, bo, ks⟩ (ofF ⟨0, a, b, c, i, ba, sg, on, ra, pv, nn, bo, ks⟩) A cp B d w1 (Kd.C_below hC hg) hc hD hd hn)
  have HCk := Lib.hid (fun w1 (hg : Below w.heap.size w w1) => Kd.C_below hC hg)
  rw [show frV ⟨0, a, b, c, i, ba, sg, on, ra, pv, nn, bo, ks⟩ (.slice A ks.length cp) = .agg #[.int .i64 0, .int .u64 (a : Int), .int .u64 (b : Int), .int .u64 (c : Int), .string i, .string ba, .int .u64 (sg : Int), .int .u64 (on : Int), .string ra, .int .u64 (pv : Int), .int .u64 (nn : Int), .string bo, .slice A ks.length cp] from rfl] at HP HLk ⊢
  generalize likeF ⟨0, a, b, c, i, ba, sg, on, ra, pv, nn, bo, ks⟩ (ofF ⟨0, a, b, c, i, ba, sg, on, ra, pv, nn, bo, ks⟩) = lk at *
  generalize hfo : ofF ⟨0, a, b, c, i, ba, sg, on, ra, pv, nn, bo, ks⟩ = g at *
  generalize hpl : partsP ⟨0, a, b, c, i, ba, sg, on, ra, pv, nn, bo, ks⟩ = pl at *
  have HN := Lib.hid hn
  have HNC := Lib.hid hc
  clear hC hc hn hfo hpl
  generalize hnn : ks.length = n at *
  have HNN := Lib.hid hnn
  clear hnn
  have HO := (Own.start w).alloc' (.cells #[.int .i64 0, .int .u64 (a : Int), .int .u64 (b : Int), .int .u64 (c : Int), .string i, .string ba, .int .u64 (sg : Int), .int .u64 (on : Int), .string ra, .int .u64 (pv : Int), .int .u64 (nn : Int), .string bo, .slice A n cp] 25) rfl
  go_enter Try.func8, Try.ntmps8
  go_wp2_with fail
  refine bstart (fun w => w.heap.size) (n := 18) (ds := []) #[false, false, false, false, false, false, false, false, false, false, false, false, false, false, false, false, false, false] (by kernel_rfl) rfl rfl (Nat.le_refl _) (fun HBS => ?_)
  refine bseq (m := 5) (.inl rfl) [(0, true, some 5), (1, true, some 6), (2, true, some 7), (3, true, some 8), (4, true, some 9), (5, true, some 10), (6, true, some 11), (7, true, some 12), (8, true, some 13), (9, true, some 14), (10, true, some 15), (11, true, some 16), (12, true, some 17)] #[true, true, true, true, true, true, true, true, true, true, true, true, true, false, false, false, false, false] HBS (by kernel_rfl) rfl (fun _ _ _ _ _ h => h) ?_
  (refine sP (v := ?_) (a' := ?_) rfl rfl (by rfl) ?_ ?_ ?_; rotate_left 2; (· intro w'; go_simp; with_reducible rfl); (· simp only [Act.put, List.setIfInBounds_toArray, List.set_cons_zero, List.set_cons_succ, kw64, kw32]; rfl))
  (refine sB (v := ?_) (a' := ?_) rfl rfl (by rfl) ?_ ?_ ?_; rotate_left 2; (· intro w1 hg; have c9 := (HO.up hg).cell 0 rfl; go_simp; with_reducible rfl); (· simp only [Act.put, List.setIfInBounds_toArray, List.set_cons_zero, List.set_cons_succ, kw64, kw32]; rfl))
  (refine sP (v := ?_) (a' := ?_) rfl rfl (by rfl) ?_ ?_ ?_; rotate_left 2; (· intro w'; go_simp; with_reducible rfl); (· simp only [Act.put, List.setIfInBounds_toArray, List.set_cons_zero, List.set_cons_succ, kw64, kw32]; rfl))
  (refine sP (v := ?_) (a' := ?_) rfl rfl (by rfl) ?_ ?_ ?_; rotate_left 2; (· intro w'; go_simp; with_reducible rfl); (· simp only [Act.put, List.setIfInBounds_toArray, List.set_cons_zero, List.set_cons_succ, kw64, kw32]; rfl))
  (refine sP (v := ?_) (a' := ?_) rfl rfl (by rfl) ?_ ?_ ?_; rotate_left 2; (· intro w'; go_simp; with_reducible rfl); (· simp only [Act.put, List.setIfInBounds_toArray, List.set_cons_zero, List.set_cons_succ, kw64, kw32]; rfl))
  (refine sB (v := ?_) (a' := ?_) rfl rfl (by rfl) ?_ ?_ ?_; rotate_left 2; (· intro w1 hg; have c9 := (HO.up hg).cell 0 rfl; go_simp; with_reducible rfl); (· simp only [Act.put, List.setIfInBounds_toArray, List.set_cons_zero, List.set_cons_succ, kw64, kw32]; rfl))
  (refine sD (v := ?_) (a' := ?_) Try.func26 rfl rfl (by rfl) rfl (by kernel_rfl) rfl (by rfl) ?_ ?_ ?_; rotate_left 2; (· intro w1 hg; exact HFm.out w1); (· simp only [Act.put, List.setIfInBounds_toArray, List.set_cons_zero, List.set_cons_succ, kw64, kw32]; rfl))
  (refine sP (v := ?_) (a' := ?_) rfl rfl (by rfl) ?_ ?_ ?_; rotate_left 2; (· intro w'; go_simp; with_reducible rfl); (· simp only [Act.put, List.setIfInBounds_toArray, List.set_cons_zero, List.set_cons_succ, kw64, kw32]; rfl))
  (refine sP (v := ?_) (a' := ?_) rfl rfl (by rfl) ?_ ?_ ?_; rotate_left 2; (· intro w'; go_simp; with_reducible rfl); (· simp only [Act.put, List.setIfInBounds_toArray, List.set_cons_zero, List.set_cons_succ, kw64, kw32]; rfl))
  (refine sP (v := ?_) (a' := ?_) rfl rfl (by rfl) ?_ ?_ ?_; rotate_left 2; (· intro w'; go_simp; with_reducible rfl); (· simp only [Act.put, List.setIfInBounds_toArray, List.set_cons_zero, List.set_cons_succ, kw64, kw32]; rfl))
  (refine sP (v := ?_) (a' := ?_) rfl rfl (by rfl) ?_ ?_ ?_; rotate_left 2; (· intro w'; go_simp; with_reducible rfl); (· simp only [Act.put, List.setIfInBounds_toArray, List.set_cons_zero, List.set_cons_succ, kw64, kw32]; rfl))
  (refine sB (v := ?_) (a' := ?_) rfl rfl (by rfl) ?_ ?_ ?_; rotate_left 2; (· intro w1 hg; (refine Eq.trans (run_load_row 25 (.tmp 1) rfl w.heap.size (by rfl) _ #[.int .i64 0, .int .u64 (a : Int), .int .u64 (b : Int), .int .u64 (c : Int), .string i, .string ba, .int .u64 (sg : Int), .int .u64 (on : Int), .string ra, .int .u64 (pv : Int), .int .u64 (nn : Int), .string bo, .slice A n cp] _ _ ((HO.up hg).blk 0 rfl) Try.underlying25 rfl (by kernel_rfl)) ?_; with_reducible rfl)); (· simp only [Act.put, List.setIfInBounds_toArray, List.set_cons_zero, List.set_cons_succ, kw64, kw32]; rfl))
  (refine sB (v := ?_) (a' := ?_) rfl rfl (by rfl) ?_ ?_ ?_; rotate_left 2; (· intro w1 hg; (refine Eq.trans (run_load_row 25 (.tmp 1) rfl w.heap.size (by rfl) _ #[.int .i64 0, .int .u64 (a : Int), .int .u64 (b : Int), .int .u64 (c : Int), .string i, .string ba, .int .u64 (sg : Int), .int .u64 (on : Int), .string ra, .int .u64 (pv : Int), .int .u64 (nn : Int), .string bo, .slice A n cp] _ _ ((HO.up hg).blk 0 rfl) Try.underlying25 rfl (by kernel_rfl)) ?_; with_reducible rfl)); (· simp only [Act.put, List.setIfInBounds_toArray, List.set_cons_zero, List.set_cons_succ, kw64, kw32]; rfl))
  refine bone (i := 13) (N := (some 18)) #[true, true, true, true, true, true, true, true, true, true, true, true, true, true, false, false, false, false] rfl rfl (by kernel_rfl) HBS (fun w1 hg K hK => ?_)
  rw [if_pos (by rfl)]
  replace HO := HO.up hg
  refine wp_call Try.func24 rfl (by kernel_rfl) rfl (by rfl) ((HP.out w1 HO.below).mono ?_)
  rintro e w2 ⟨⟨B, d, rfl, hd, hB⟩, hb⟩
  refine ⟨_, rfl, hK _ _ (not_ds (by decide) hb) (fun HBS => ?_)⟩
  replace HO := HO.up hb
  refine at_dst (some 18) rfl ?_
  simp only [Act.put, List.setIfInBounds_toArray, List.set_cons_zero, List.set_cons_succ]
  refine bone (i := 14) (N := (some 19)) #[true, true, true, true, true, true, true, true, true, true, true, true, true, true, true, false, false, false] rfl rfl (by kernel_rfl) HBS (fun w1 hg K hK => ?_)
  rw [if_pos (by rfl)]
  replace HO := HO.up hg
  refine wp_call Try.func27 rfl (by kernel_rfl) rfl (by rfl) ((HF.out B d w1 (Kd.C_below hB (Below.mono hg (Nat.le_refl _))) hd).mono ?_)
  rintro e w2 ⟨⟨v, rfl, A2, c2, rfl, hl2, _, hC2⟩, hb⟩
  refine ⟨_, rfl, hK _ _ (not_ds (by decide) hb) (fun HBS => ?_)⟩
  replace HO := HO.up hb
  refine at_dst (some 19) rfl ?_
  simp only [Act.put, List.setIfInBounds_toArray, List.set_cons_zero, List.set_cons_succ]
  refine bseq (m := 0) (.inl rfl) [(15, false, some 20), (16, true, some 21), (17, true, some 22)] #[true, true, true, true, true, true, true, true, true, true, true, true, true, true, true, true, true, true] HBS (by kernel_rfl) rfl (fun _ _ _ _ _ h => h) ?_
  (refine sC (v := ?_) (a' := ?_) Try.func10 rfl rfl (by rfl) rfl (by kernel_rfl) rfl (by rfl) ?_ ?_ ?_; rotate_left 2; (· intro w1 hg; exact HLk.out A2 c2 w1 (HO.up hg).below (Kd.C_below hC2 hg) hl2); (· simp only [Act.put, List.setIfInBounds_toArray, List.set_cons_zero, List.set_cons_succ, kw64, kw32]; rfl))
  (refine sP (v := ?_) (a' := ?_) rfl rfl (by rfl) ?_ ?_ ?_; rotate_left 2; (· intro w'; go_simp; with_reducible rfl); (· simp only [Act.put, List.setIfInBounds_toArray, List.set_cons_zero, List.set_cons_succ, kw64, kw32]; rfl))
  (refine sP (v := ?_) (a' := ?_) rfl rfl (by rfl) ?_ ?_ ?_; rotate_left 2; (· intro w'; go_simp; with_reducible rfl); (· simp only [Act.put, List.setIfInBounds_toArray, List.set_cons_zero, List.set_cons_succ, kw64, kw32]; rfl))
  refine bdone (by kernel_rfl) (fun w1 hg => ?_)
  replace HO := HO.up hg
  clear hg HP HF HLk HFm
  cases lk with
  | false =>
    go_wp2
    go_ret
    exact ⟨rfl, HO.below⟩
  | true =>
    have hsz : (w1.alloc (.cells #[.string ra] 9)).heap.size = w1.heap.size + 1 := by simp
    have hRL : Kd.string.R 9 ((w1.alloc (.cells #[.string ra] 9)).alloc (.cells #[.string i, .string ba] 9)) w.heap.size (fun _ => True) (.slice (some ⟨w1.heap.size, 0, none⟩) 1 1) [ra] := Kd.R_alloc (show Kd.string.R 9 (w1.alloc (.cells #[.string ra] 9)) w.heap.size (fun _ => True) (.slice (some ⟨w1.heap.size, 0, none⟩) 1 1) [ra] from R_new_lit w1 w.heap.size 9 [ra] HO.below.size (by simp)) _
    have hAL := C_lit_strF (w1.alloc (.cells #[.string ra] 9)) 9 [i, ba] (by simp)
    rw [hsz] at hAL
    have HRL := Lib.hid (Aside0.mk hRL)
    have HAL := Lib.hid hAL
    have HBL := Lib.hid (below_alloc (below_alloc HO.below (.cells #[.string ra] 9)) (.cells #[.string i, .string ba] 9))
    have HOW := Lib.hid (HO.up (below_alloc (below_alloc (Below.refl _ _) (.cells #[.string ra] 9)) (.cells #[.string i, .string ba] 9)))
    have hlt := HO.lt 0 rfl
    clear hsz hRL hAL
    have c0 := HO.cell 0 rfl
    have c1 := (HO.alloc' (.cells #[.string ra] 9) rfl).cell 1 rfl
    by_cases hb : bo.size ≤ 1024
    · have e1 : (bo.size : Int) ≤ 1024 := by omega
      have HB1 := Lib.hid hb
      clear hb
      by_cases hk : n ≤ 32
      · have e2 : (n : Int) ≤ 32 := by omega
        have HK1 := Lib.hid hk
        clear hk
        go_wp2_with (at_builtin; refine app_rows Kd.string (w0 := w) (.tmp 34) (.tmp 39) 23 9 (.string ⟨#[]⟩) 16 rfl rfl Try.underlying23 info_strF rfl (by decide) (by decide) (fun _ _ h => h) _ [ra] [i, ba] _ 2 2 rfl rfl HRL.out HAL.out ⟨HBL.out⟩ (by simp) ?_; intro v1 w9 hR9 hb9 hgr; have HO9 := HOW.out.grownF hgr (fun q hq => by have e : w1.heap.size = q := Option.some.inj hq; subst e; exact ⟨by omega, by simp; omega⟩); obtain ⟨A3, c3, rfl⟩ := Kd.R_slice hR9.out; obtain ⟨_, _, hC9⟩ := Kd.R_reads' hR9.out; have HCL := Lib.hid hC9; have HBL := Lib.hid hb9.out; clear hR9 hb9 hC9 hgr c0 c1; have c9 := HO9.cell 0 rfl)
        refine (ContainsFunc_any _ 3 c3 [ra, i, ba] _ HCL.out (by decide)).mono ?_
        rintro e w5 ⟨rfl, rfl⟩
        go_wp2
        go_ret
        exact ⟨by rw [decide_eq_true HB1.out, decide_eq_true HK1.out]; rfl, HBL.out⟩
      · have e2 : ¬ ((n : Int) ≤ 32) := by omega
        have HK1 := Lib.hid hk
        clear hk
        go_wp2_with (at_builtin; refine app_rows Kd.string (w0 := w) (.tmp 34) (.tmp 39) 23 9 (.string ⟨#[]⟩) 16 rfl rfl Try.underlying23 info_strF rfl (by decide) (by decide) (fun _ _ h => h) _ [ra] [i, ba] _ 2 2 rfl rfl HRL.out HAL.out ⟨HBL.out⟩ (by simp) ?_; intro v1 w9 hR9 hb9 hgr; have HO9 := HOW.out.grownF hgr (fun q hq => by have e : w1.heap.size = q := Option.some.inj hq; subst e; exact ⟨by omega, by simp; omega⟩); obtain ⟨A3, c3, rfl⟩ := Kd.R_slice hR9.out; obtain ⟨_, _, hC9⟩ := Kd.R_reads' hR9.out; have HCL := Lib.hid hC9; have HBL := Lib.hid hb9.out; clear hR9 hb9 hC9 hgr c0 c1; have c9 := HO9.cell 0 rfl)
        go_ret
        exact ⟨by rw [decide_eq_true HB1.out, decide_eq_false HK1.out]; rfl, HBL.out⟩
    · have e1 : ¬ ((bo.size : Int) ≤ 1024) := by omega
      have HB1 := Lib.hid hb
      clear hb
      go_wp2_with (at_builtin; refine app_rows Kd.string (w0 := w) (.tmp 34) (.tmp 39) 23 9 (.string ⟨#[]⟩) 16 rfl rfl Try.underlying23 info_strF rfl (by decide) (by decide) (fun _ _ h => h) _ [ra] [i, ba] _ 2 2 rfl rfl HRL.out HAL.out ⟨HBL.out⟩ (by simp) ?_; intro v1 w9 hR9 hb9 hgr; have HO9 := HOW.out.grownF hgr (fun q hq => by have e : w1.heap.size = q := Option.some.inj hq; subst e; exact ⟨by omega, by simp; omega⟩); obtain ⟨A3, c3, rfl⟩ := Kd.R_slice hR9.out; obtain ⟨_, _, hC9⟩ := Kd.R_reads' hR9.out; have HCL := Lib.hid hC9; have HBL := Lib.hid hb9.out; clear hR9 hb9 hC9 hgr c0 c1; have c9 := HO9.cell 0 rfl)
      go_ret
      exact ⟨by rw [decide_eq_false HB1.out]; rfl, HBL.out⟩
theorem Right_any (f : FrD) (A : Option Addr) (cp : Nat) (w : World) (hC : Kd.string.C w A f.keys.length f.keys) (hc : f.keys.length ≤ cp) (hn : f.keys.length ≤ 1000000) :
    Calls Try.prog 8 #[frV f (.slice A f.keys.length cp)] w fun e w' => e = .returned (.bool (rightF f)) ∧ Below w.heap.size w w' := by
  obtain ⟨kd, a, b, c, i, ba, sg, on, ra, pv, nn, bo, ks⟩ := f
  dsimp only at *
  by_cases h1 : kd < 0
  · exact Right_neg kd h1 a b c i ba sg on ra pv nn bo ks A cp w hC hc hn
  · by_cases h2 : 3 ≤ kd
    · exact Right_big kd h2 a b c i ba sg on ra pv nn bo ks A cp w hC hc hn
    · have hk : kd = 0 ∨ kd = 1 ∨ kd = 2 := by omega
      rcases hk with rfl | rfl | rfl
      · exact Right_k0 a b c i ba sg on ra pv nn bo ks A cp w hC hc hn
      · exact Right_k1 a b c i ba sg on ra pv nn bo ks A cp w hC hc hn
      · exact Right_k2 a b c i ba sg on ra pv nn bo ks A cp w hC hc hn
end Go.Proofs.Ytfghjahmnjghgaa

import Derived.Test.YtfghjahmnjghgaaFrC
import Derived.Test.YtfghjahmnjghgaaQFr
import Derived.Test.YtfghjahmnjghgaaQFs
set_option linter.unusedVariables false
set_option linter.unusedSimpArgs false
/- LAYER 8: frames, plainly. -/
namespace Go.Proofs.Ytfghjahmnjghgaa
open Go.RowKit Go.Proofs.YtfghjahmnjghgaaW.PrintWords Go.Proofs.YtfghjahmnjghgaaW.PrintLast Go.Proofs.YtfghjahmnjghgaaW.PrintMore Go.Proofs.Ytfghjahmnjghgaa.PFr
structure FrD where
  kd : Int
  a : Nat
  b : Nat
  c : Nat
  i : ByteArray
  ba : ByteArray
  sg : Nat
  on : Nat
  ra : ByteArray
  pv : Nat
  nn : Nat
  bo : ByteArray
  keys : List ByteArray
deriving DecidableEq
def frV (f : FrD) (sl : Value) : Value := .agg (frC f.kd f.a f.b f.c f.i f.ba f.sg f.on f.ra f.pv f.nn f.bo sl)
/-- a frame's parts ahead of its body or keys -/
def headP (f : FrD) : List PartD := [numP f.kd.toNat, numP f.a, numP f.b, numP f.c] ++ (if f.kd = 0 then [txtP f.i, txtP f.ba, numP f.sg, numP f.on] else []) ++ (if f.kd = 2 then [] else [txtP f.ra, numP f.pv, numP f.nn])
def partsP (f : FrD) : List PartD := headP f ++ (if f.kd = 2 then numP f.keys.length :: f.keys.map txtP else [txtP f.bo])
/-- what its parts tell -/
def ofF (f : FrD) : FrD :=
  if f.kd = 0 then { f with keys := [] }
  else if f.kd = 1 then { f with i := ⟨#[]⟩, ba := ⟨#[]⟩, sg := 0, on := 0, keys := [] }
  else { f with i := ⟨#[]⟩, ba := ⟨#[]⟩, sg := 0, on := 0, ra := ⟨#[]⟩, pv := 0, nn := 0, bo := ⟨#[]⟩ }
def likeF (f g : FrD) : Bool := decide (f = g)
def pointsF (f : FrD) : List ByteArray := if f.kd = 2 then f.keys else if f.kd = 0 then [f.ra, f.i, f.ba] else [f.ra]
def rightF (f : FrD) : Bool := decide (0 ≤ f.kd) && decide (f.kd ≤ 2) && likeF f (ofF f) && decide (f.bo.size ≤ 1024) && decide (f.keys.length ≤ 32) && !(oddL (pointsF f))
/-- parts as the print has them -/
def s1 (p : PartD) : S67 := ⟨p.text, (p.n : Int), p.s⟩
theorem u64n (n : Nat) (h : n < 18446744073709551616) : IntKind.u64.wrap (n : Int) = (n : Int) := by show (n : Int) % 18446744073709551616 = _; omega
theorem head_f (f : FrD) (h0 : 0 ≤ f.kd) (h2 : f.kd ≤ 2) (k : Nat) : frame_head.f (k + 1) f.kd f.a f.b f.c f.i f.ba f.sg f.on f.ra f.pv f.nn f.bo f.keys = some ((headP f).map s1) := by
  have hw : IntKind.u64.wrap f.kd = ((f.kd.toNat : Nat) : Int) := by show f.kd % 18446744073709551616 = _; omega
  unfold frame_head.f
  rw [hw]
  simp only [frame_number.f, frame_text.f, Option.bind_some, frame_head.j0]
  unfold headP
  by_cases k0 : f.kd = 0
  · have h2 : ¬ f.kd = 2 := by omega
    rw [if_pos k0, if_pos (by simp), if_neg h2, if_pos (by simp), if_pos k0, if_neg h2]
    rfl
  · rw [if_neg k0, if_neg k0]
    by_cases k2 : f.kd = 2
    · rw [if_pos k2, if_pos k2]; rfl
    · rw [if_neg k2, if_neg k2, if_pos (by simp)]
      rfl
theorem headP_len (f : FrD) : (headP f).length ≤ 11 := by
  unfold headP
  split <;> split <;> simp
theorem parts_l0 (f : FrD) (k : Nat) : ∀ m i (x : List PartD), i + m = f.keys.length → x.length ≤ 100 + i → f.keys.length ≤ 1000000 → frame_parts.l0 (k + m + 1) (x.map s1) f.keys (f.keys.length : Int) (i : Int) = some ((x ++ (f.keys.drop i).map txtP).map s1)
  | 0, i, x, h, _, _ => by
    obtain rfl : i = f.keys.length := h
    rw [frame_parts.l0, if_neg (by omega)]
    simp
  | m + 1, i, x, h, hx, hn => by
    have w3 : wrap64 ((i : Int) + 1) = ((i + 1 : Nat) : Int) := by unfold wrap64; omega
    obtain ⟨y, hy⟩ : ∃ y, f.keys[i]? = some y := ⟨_, List.getElem?_eq_getElem (by omega)⟩
    have hr : rdOf ByteArray.empty f.keys (i : Int) = y := by
      unfold rdOf
      rw [Int.toNat_natCast, List.getD_eq_getElem?_getD, hy]; rfl
    have hd : f.keys.drop i = y :: f.keys.drop (i + 1) := by
      rw [List.drop_eq_getElem_cons (by omega)]
      rw [List.getElem?_eq_getElem (by omega)] at hy
      rw [Option.some.inj hy]
    rw [frame_parts.l0, if_pos (by omega), if_pos (by omega), if_pos (by omega), hr]
    simp only [frame_text.f, Option.bind_some]
    rw [if_pos (by rw [List.length_map]; omega), w3]
    have := parts_l0 f k m (i + 1) (x ++ [txtP y]) (by omega) (by rw [List.length_append]; simp; omega) hn
    rw [hd]
    rw [List.map_append] at this
    refine Eq.trans ?_ (this.trans ?_)
    · rfl
    · simp
theorem parts_f (f : FrD) (h0 : 0 ≤ f.kd) (h2 : f.kd ≤ 2) (hn : f.keys.length ≤ 1000000) (k : Nat) : frame_parts.f (k + f.keys.length + 1) f.kd f.a f.b f.c f.i f.ba f.sg f.on f.ra f.pv f.nn f.bo f.keys = some ((partsP f).map s1) := by
  have hl := headP_len f
  unfold frame_parts.f
  rw [head_f f h0 h2, Option.bind_some]
  simp only [frame_number.f, frame_text.f, Option.bind_some]
  unfold partsP
  by_cases k2 : f.kd = 2
  · rw [if_pos k2, if_pos k2, if_pos (by rw [List.length_map]; omega), u64n _ (by omega)]
    have := parts_l0 f k f.keys.length 0 (headP f ++ [numP f.keys.length]) (by omega) (by rw [List.length_append]; simp; omega) hn
    rw [List.map_append] at this
    refine Eq.trans ?_ (this.trans ?_)
    · rfl
    · simp
  · rw [if_neg k2, if_neg k2, if_pos (by rw [List.length_map]; omega), List.map_append]; rfl
end Go.Proofs.Ytfghjahmnjghgaa

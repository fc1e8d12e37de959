import Derived.Test.YtfghjahmnjghgaaFrI
import Derived.Test.YtfghjahmnjghgaaFrK
import Derived.Test.YtfghjahmnjghgaaQFt
set_option linter.unusedSimpArgs false
set_option linter.unusedVariables false
/- LAYER 8: which frames may be, and which two are the same, as the document says. -/
namespace Go.Proofs.Ytfghjahmnjghgaa
open Go.RowKit Go.Proofs.YtfghjahmnjghgaaW.PrintWords Go.Proofs.YtfghjahmnjghgaaW.PrintLast Go.Proofs.YtfghjahmnjghgaaW.PrintMore Go.Proofs.Ytfghjahmnjghgaa.PFr
theorem tl_nil (s : ByteArray) : s.toList = ([] : List UInt8) ↔ s = ⟨#[]⟩ := by
  rw [ByteArray.toList_eq]
  constructor
  · intro h; exact ByteArray.ext (Array.ext' h)
  · intro h; rw [h]
theorem tl_eq (s t : ByteArray) : s.toList = t.toList ↔ s = t := by
  rw [ByteArray.toList_eq, ByteArray.toList_eq]
  exact ⟨fun h => ByteArray.ext (Array.ext' h), fun h => by rw [h]⟩
theorem like_0 (f : FrD) (h : f.kd = 0) : f = ofF f ↔ f.keys = [] := by
  cases f; simp only at h; subst h; unfold ofF; simp
theorem like_1 (f : FrD) (h : f.kd = 1) : f = ofF f ↔ (f.i = ⟨#[]⟩ ∧ f.ba = ⟨#[]⟩ ∧ f.sg = 0 ∧ f.on = 0 ∧ f.keys = []) := by
  cases f; simp only at h; subst h; unfold ofF; simp
theorem like_2 (f : FrD) (h : f.kd = 2) : f = ofF f ↔ (f.i = ⟨#[]⟩ ∧ f.ba = ⟨#[]⟩ ∧ f.sg = 0 ∧ f.on = 0 ∧ f.ra = ⟨#[]⟩ ∧ f.pv = 0 ∧ f.nn = 0 ∧ f.bo = ⟨#[]⟩) := by
  cases f; simp only at h; subst h; unfold ofF; simp
theorem right_of (f : FrD) (h1 : 0 ≤ f.kd) (h2 : f.kd ≤ 2) (h3 : f = ofF f) (h4 : f.bo.size ≤ 1024) (h5 : f.keys.length ≤ 32) (h6 : oddL (pointsF f) = false) : rightF f = true := by
  unfold rightF likeF
  rw [decide_eq_true h1, decide_eq_true h2, decide_eq_true h3, decide_eq_true h4, decide_eq_true h5, h6]; rfl
theorem odd_of (l : List ByteArray) (h : ∀ x ∈ l, x.size = 32) : oddL l = false := by
  unfold oddL
  rw [List.any_eq_false]
  intro x hx
  rw [h x hx]; decide
theorem keys_l0 (xs : List ByteArray) (hn : xs.length ≤ 1000000) (k : Nat) : ∀ m i, i + m = xs.length → demurralref08_keys.l0 (k + m + 1) xs xs (xs.length : Int) (i : Int) = some (!(oddL (xs.drop i)) && decide (xs.length ≤ 32))
  | 0, i, h => by
    obtain rfl : i = xs.length := h
    rw [demurralref08_keys.l0, if_neg (by omega), List.drop_length]
    have : decide ((xs.length : Int) ≤ 32) = decide (xs.length ≤ 32) := by
      by_cases hh : xs.length ≤ 32
      · rw [decide_eq_true hh, decide_eq_true (by omega)]
      · rw [decide_eq_false hh, decide_eq_false (by omega)]
    rw [this]; rfl
  | m + 1, i, h => by
    have w3 : wrap64 ((i : Int) + 1) = ((i + 1 : Nat) : Int) := by unfold wrap64; omega
    obtain ⟨x, hx⟩ : ∃ y, xs[i]? = some y := ⟨_, List.getElem?_eq_getElem (by omega)⟩
    have hr1 : rdOf ByteArray.empty xs (i : Int) = x := by
      unfold rdOf
      rw [Int.toNat_natCast, List.getD_eq_getElem?_getD, hx]; rfl
    have hd1 : xs.drop i = x :: xs.drop (i + 1) := by
      rw [List.drop_eq_getElem_cons (by omega)]
      rw [List.getElem?_eq_getElem (by omega)] at hx
      rw [Option.some.inj hx]
    rw [demurralref08_keys.l0, if_pos (by omega), if_pos (by omega), if_pos (by omega), hr1, hd1]
    by_cases hq : x.size = 32
    · rw [if_pos (by omega), w3, show k + (m + 1) = k + m + 1 from rfl, keys_l0 xs hn k m (i + 1) (by omega)]
      unfold oddL
      rw [List.any_cons, hq]; rfl
    · rw [if_neg (by omega)]
      unfold oddL
      rw [List.any_cons, show (x.size == 32) = false from by rw [beq_eq_false_iff_ne]; exact hq]; rfl
theorem keys_f (xs : List ByteArray) (hn : xs.length ≤ 1000000) (k : Nat) : demurralref08_keys.f (k + xs.length + 1) xs = some (!(oddL xs) && decide (xs.length ≤ 32)) :=
  keys_l0 xs hn k xs.length 0 (by omega)
theorem j0_true (f : FrD) (k : Nat) : demurralref08_Right.j0 (k + 1) true f.kd f.a f.b f.c f.i f.ba f.sg f.on f.ra f.pv f.nn f.bo f.keys = some false := by
  rw [demurralref08_Right.j0, if_pos rfl]
theorem not_right {f : FrD} {p : Prop} (hp : ¬ p) (h : rightF f = true → p) : some false = some (rightF f) := by
  rw [Bool.eq_false_iff.2 (fun hr => hp (h hr))]
theorem RRight_f (f : FrD) (hn : f.keys.length ≤ 1000000) (k : Nat) : demurralref08_Right.f (k + f.keys.length + 1 + 1) f.kd f.a f.b f.c f.i f.ba f.sg f.on f.ra f.pv f.nn f.bo f.keys = some (rightF f) := by
  unfold demurralref08_Right.f
  by_cases k0 : f.kd = 0
  · rw [if_pos k0]
    by_cases q1 : f.i.size = 32
    · rw [if_pos (by omega)]
      by_cases q2 : f.ba.size = 32
      · rw [if_pos (by omega)]
        by_cases q3 : f.ra.size = 32
        · rw [if_pos (by omega)]
          by_cases q4 : f.bo.size ≤ 1024
          · rw [if_pos (by omega)]
            by_cases q5 : f.keys = []
            · rw [right_of f (by omega) (by omega) ((like_0 f k0).2 q5) q4 (by rw [q5]; decide) (by
                unfold pointsF
                rw [if_neg (by omega), if_pos k0]
                refine odd_of _ fun x hx => ?_
                simp only [List.mem_cons, List.not_mem_nil, or_false] at hx
                rcases hx with rfl | rfl | rfl <;> assumption), q5]; rfl
            · rw [show ((f.keys.length : Int) == 0) = false from by
                rw [beq_eq_false_iff_ne]
                intro h
                exact q5 (List.length_eq_zero_iff.1 (by omega))]
              exact not_right q5 (fun hr => (like_0 f k0).1 (right_parts f hr).2.2.1)
          · rw [if_neg (by omega)]
            exact not_right q4 (fun hr => (right_parts f hr).2.2.2.1)
        · rw [if_neg (by omega)]
          exact not_right q3 (fun hr => (right_sizes f hr).2.1 (by omega))
      · rw [if_neg (by omega)]
        exact not_right q2 (fun hr => ((right_sizes f hr).1 k0).2)
    · rw [if_neg (by omega)]
      exact not_right q1 (fun hr => ((right_sizes f hr).1 k0).1)
  · rw [if_neg k0]
    have hcase : ∀ {p : Prop}, ¬ p → (f.kd = 1 → f = ofF f → p) → (f.kd = 2 → f = ofF f → p) → some false = some (rightF f) := fun hp h1 h2 => not_right hp (fun hr => by
      obtain ⟨a1, a2, a3, _⟩ := right_parts f hr
      have : f.kd = 1 ∨ f.kd = 2 := by omega
      rcases this with h | h
      · exact h1 h a3
      · exact h2 h a3)
    by_cases q1 : f.i = ⟨#[]⟩
    · rw [if_pos ((tl_nil _).2 q1)]
      by_cases q2 : f.ba = ⟨#[]⟩
      · rw [if_pos ((tl_nil _).2 q2)]
        by_cases q3 : f.sg = 0
        · rw [if_pos (by omega)]
          by_cases q4 : f.on = 0
          · rw [show ((f.on : Int) != 0) = false from by rw [q4]; rfl]
            rw [demurralref08_Right.j0, if_neg (by decide)]
            by_cases k1 : f.kd = 1
            · rw [if_pos k1]
              by_cases q5 : f.ra.size = 32
              · rw [if_pos (by omega)]
                by_cases q6 : f.bo.size ≤ 1024
                · rw [if_pos (by omega)]
                  by_cases q7 : f.keys = []
                  · rw [right_of f (by omega) (by omega) ((like_1 f k1).2 ⟨q1, q2, q3, q4, q7⟩) q6 (by rw [q7]; decide) (by
                      unfold pointsF
                      rw [if_neg (by omega), if_neg k0]
                      refine odd_of _ fun x hx => ?_
                      obtain rfl := List.mem_singleton.1 hx
                      exact q5), q7]; rfl
                  · rw [show ((f.keys.length : Int) == 0) = false from by
                      rw [beq_eq_false_iff_ne]
                      intro h
                      exact q7 (List.length_eq_zero_iff.1 (by omega))]
                    exact not_right q7 (fun hr => ((like_1 f k1).1 (right_parts f hr).2.2.1).2.2.2.2)
                · rw [if_neg (by omega)]
                  exact not_right q6 (fun hr => (right_parts f hr).2.2.2.1)
              · rw [if_neg (by omega)]
                exact not_right q5 (fun hr => (right_sizes f hr).2.1 (by omega))
            · rw [if_neg k1]
              by_cases k2 : f.kd = 2
              · rw [if_pos k2]
                by_cases q5 : f.ra = ⟨#[]⟩
                · rw [if_pos ((tl_nil _).2 q5)]
                  by_cases q6 : f.bo = ⟨#[]⟩
                  · rw [if_pos ((tl_nil _).2 q6)]
                    by_cases q7 : f.pv = 0
                    · rw [if_pos (by omega)]
                      by_cases q8 : f.nn = 0
                      · rw [if_pos (by omega), keys_f f.keys hn k, Option.bind_some]
                        refine congrArg some ?_
                        have hb : f.bo.size ≤ 1024 := by rw [q6]; decide
                        have hp : pointsF f = f.keys := by unfold pointsF; rw [if_pos k2]
                        unfold rightF likeF
                        rw [decide_eq_true (show 0 ≤ f.kd by omega), decide_eq_true (show f.kd ≤ 2 by omega), decide_eq_true ((like_2 f k2).2 ⟨q1, q2, q3, q4, q5, q7, q8, q6⟩), decide_eq_true hb, hp, Bool.and_comm]
                        rfl
                      · rw [if_neg (by omega)]
                        exact not_right q8 (fun hr => ((like_2 f k2).1 (right_parts f hr).2.2.1).2.2.2.2.2.2.1)
                    · rw [if_neg (by omega)]
                      exact not_right q7 (fun hr => ((like_2 f k2).1 (right_parts f hr).2.2.1).2.2.2.2.2.1)
                  · rw [if_neg (fun h => q6 ((tl_nil _).1 h))]
                    exact not_right q6 (fun hr => ((like_2 f k2).1 (right_parts f hr).2.2.1).2.2.2.2.2.2.2)
                · rw [if_neg (fun h => q5 ((tl_nil _).1 h))]
                  exact not_right q5 (fun hr => ((like_2 f k2).1 (right_parts f hr).2.2.1).2.2.2.2.1)
              · rw [if_neg k2]
                exact not_right (p := f.kd = 1 ∨ f.kd = 2) (by omega) (fun hr => by obtain ⟨a1, a2, _⟩ := right_parts f hr; omega)
          · rw [show ((f.on : Int) != 0) = true from by rw [bne_iff_ne]; omega, j0_true]
            exact hcase q4 (fun h e => ((like_1 f h).1 e).2.2.2.1) (fun h e => ((like_2 f h).1 e).2.2.2.1)
        · rw [if_neg (by omega), j0_true]
          exact hcase q3 (fun h e => ((like_1 f h).1 e).2.2.1) (fun h e => ((like_2 f h).1 e).2.2.1)
      · rw [if_neg (fun h => q2 ((tl_nil _).1 h)), j0_true]
        exact hcase q2 (fun h e => ((like_1 f h).1 e).2.1) (fun h e => ((like_2 f h).1 e).2.1)
    · rw [if_neg (fun h => q1 ((tl_nil _).1 h)), j0_true]
      exact hcase q1 (fun h e => ((like_1 f h).1 e).1) (fun h e => ((like_2 f h).1 e).1)
theorem Same_l0 (f g : FrD) (hl : f.keys.length = g.keys.length) (hn : f.keys.length ≤ 1000000) (k : Nat) : ∀ m i, i + m = f.keys.length → demurralref08_Same.l0 (k + m + 1) (f.keys.length : Int) (i : Int) f.kd f.a f.b f.c f.i f.ba f.sg f.on f.ra f.pv f.nn f.bo f.keys g.kd g.a g.b g.c g.i g.ba g.sg g.on g.ra g.pv g.nn g.bo g.keys = some (decide (f.keys.drop i = g.keys.drop i))
  | 0, i, h => by
    obtain rfl : i = f.keys.length := h
    rw [demurralref08_Same.l0, if_neg (by omega), List.drop_length, hl, List.drop_length]; rfl
  | m + 1, i, h => by
    have w3 : wrap64 ((i : Int) + 1) = ((i + 1 : Nat) : Int) := by unfold wrap64; omega
    obtain ⟨x, hx⟩ : ∃ y, f.keys[i]? = some y := ⟨_, List.getElem?_eq_getElem (by omega)⟩
    obtain ⟨y, hy⟩ : ∃ y, g.keys[i]? = some y := ⟨_, List.getElem?_eq_getElem (by omega)⟩
    have hr1 : rdOf ByteArray.empty f.keys (i : Int) = x := by
      unfold rdOf
      rw [Int.toNat_natCast, List.getD_eq_getElem?_getD, hx]; rfl
    have hr2 : rdOf ByteArray.empty g.keys (i : Int) = y := by
      unfold rdOf
      rw [Int.toNat_natCast, List.getD_eq_getElem?_getD, hy]; rfl
    have hd1 : f.keys.drop i = x :: f.keys.drop (i + 1) := by
      rw [List.drop_eq_getElem_cons (by omega)]
      rw [List.getElem?_eq_getElem (by omega)] at hx
      rw [Option.some.inj hx]
    have hd2 : g.keys.drop i = y :: g.keys.drop (i + 1) := by
      rw [List.drop_eq_getElem_cons (by omega)]
      rw [List.getElem?_eq_getElem (by omega)] at hy
      rw [Option.some.inj hy]
    rw [demurralref08_Same.l0, if_pos (by omega), if_pos (by omega), if_pos (by omega), if_pos (by omega), hr1, hr2, hd1, hd2]
    by_cases hxy : x = y
    · rw [if_pos ((tl_eq _ _).2 hxy), w3, show k + (m + 1) = k + m + 1 from rfl, Same_l0 f g hl hn k m (i + 1) (by omega), hxy]
      simp
    · rw [if_neg (fun h => hxy ((tl_eq _ _).1 h))]
      simp [hxy]
theorem sj1_true (f g : FrD) (k : Nat) : demurralref08_Same.j1 (k + 1) true f.kd f.a f.b f.c f.i f.ba f.sg f.on f.ra f.pv f.nn f.bo f.keys g.kd g.a g.b g.c g.i g.ba g.sg g.on g.ra g.pv g.nn g.bo g.keys = some false := by rw [demurralref08_Same.j1, if_pos rfl]
theorem sj0_true (f g : FrD) (k : Nat) : demurralref08_Same.j0 (k + 1) true f.kd f.a f.b f.c f.i f.ba f.sg f.on f.ra f.pv f.nn f.bo f.keys g.kd g.a g.b g.c g.i g.ba g.sg g.on g.ra g.pv g.nn g.bo g.keys = some false := by rw [demurralref08_Same.j0, if_pos rfl]
theorem not_like {f g : FrD} {p : Prop} (hp : ¬ p) (h : f = g → p) : some false = some (likeF f g) := by
  unfold likeF
  rw [decide_eq_false (fun e => hp (h e))]
theorem Same_f (f g : FrD) (hn : f.keys.length ≤ 1000000) (k : Nat) : demurralref08_Same.f (k + f.keys.length + 1 + 1 + 1) f.kd f.a f.b f.c f.i f.ba f.sg f.on f.ra f.pv f.nn f.bo f.keys g.kd g.a g.b g.c g.i g.ba g.sg g.on g.ra g.pv g.nn g.bo g.keys = some (likeF f g) := by
  unfold demurralref08_Same.f
  by_cases q0 : f.kd = g.kd
  · rw [if_pos q0]
    by_cases q1 : f.a = g.a
    · rw [if_pos (by omega)]
      by_cases q2 : f.b = g.b
      · rw [if_pos (by omega)]
        by_cases q3 : f.c = g.c
        · rw [if_pos (by omega)]
          by_cases q4 : f.i = g.i
          · rw [if_pos ((tl_eq _ _).2 q4)]
            by_cases q5 : f.ba = g.ba
            · rw [show (f.ba.toList != g.ba.toList) = false from by rw [q5]; simp]
              rw [demurralref08_Same.j0, if_neg (by decide)]
              by_cases q6 : f.sg = g.sg
              · rw [if_pos (by omega)]
                by_cases q7 : f.on = g.on
                · rw [if_pos (by omega)]
                  by_cases q8 : f.ra = g.ra
                  · rw [if_pos ((tl_eq _ _).2 q8)]
                    by_cases q9 : f.pv = g.pv
                    · rw [if_pos (by omega)]
                      by_cases qa : f.nn = g.nn
                      · rw [if_pos (by omega)]
                        by_cases qb : f.bo = g.bo
                        · rw [if_pos ((tl_eq _ _).2 qb)]
                          by_cases qc : f.keys.length = g.keys.length
                          · rw [show ((f.keys.length : Int) != (g.keys.length : Int)) = false from by rw [qc]; simp]
                            rw [demurralref08_Same.j1, if_neg (by decide)]
                            refine (Same_l0 f g qc hn k f.keys.length 0 (by omega)).trans ?_
                            rw [List.drop_zero, List.drop_zero]
                            refine congrArg some ?_
                            unfold likeF
                            rw [decide_eq_decide]
                            constructor
                            · intro hk
                              cases f; cases g; simp only at *; subst q0 q1 q2 q3 q4 q5 q6 q7 q8 q9 qa qb hk; rfl
                            · intro e; rw [e]
                          · rw [show ((f.keys.length : Int) != (g.keys.length : Int)) = true from by rw [bne_iff_ne]; omega, sj1_true]
                            exact not_like qc (fun e => by rw [e])
                        · rw [if_neg (fun h => qb ((tl_eq _ _).1 h)), sj1_true]
                          exact not_like qb (fun e => by rw [e])
                      · rw [if_neg (by omega), sj1_true]
                        exact not_like qa (fun e => by rw [e])
                    · rw [if_neg (by omega), sj1_true]
                      exact not_like q9 (fun e => by rw [e])
                  · rw [if_neg (fun h => q8 ((tl_eq _ _).1 h)), sj1_true]
                    exact not_like q8 (fun e => by rw [e])
                · rw [if_neg (by omega), sj1_true]
                  exact not_like q7 (fun e => by rw [e])
              · rw [if_neg (by omega), sj1_true]
                exact not_like q6 (fun e => by rw [e])
            · rw [show (f.ba.toList != g.ba.toList) = true from by rw [bne_iff_ne]; exact fun h => q5 ((tl_eq _ _).1 h), sj0_true]
              exact not_like q5 (fun e => by rw [e])
          · rw [if_neg (fun h => q4 ((tl_eq _ _).1 h)), sj0_true]
            exact not_like q4 (fun e => by rw [e])
        · rw [if_neg (by omega), sj0_true]
          exact not_like q3 (fun e => by rw [e])
      · rw [if_neg (by omega), sj0_true]
        exact not_like q2 (fun e => by rw [e])
    · rw [if_neg (by omega), sj0_true]
      exact not_like q1 (fun e => by rw [e])
  · rw [if_neg q0, sj0_true]
    exact not_like q0 (fun e => by rw [e])
attribute [local irreducible] Calls
theorem RSame_fr (f g : FrD) (A : Option Addr) (c : Nat) (B : Option Addr) (d : Nat) (w : World) (hC : Kd.string.C w A f.keys.length f.keys) (hc : f.keys.length ≤ c) (hD : Kd.string.C w B g.keys.length g.keys) (hd : g.keys.length ≤ d) (hn : f.keys.length ≤ 1000000) :
    Calls Try.prog 11 #[frV f (.slice A f.keys.length c), frV g (.slice B g.keys.length d)] w fun e w' => e = .returned (.bool (likeF f g)) ∧ Below w.heap.size w w' := by
  refine (demurralref08_Same.calls (0 + f.keys.length + 1 + 1 + 1) f.kd f.a f.b f.c f.i f.ba f.sg f.on f.ra f.pv f.nn f.bo A c f.keys g.kd g.a g.b g.c g.i g.ba g.sg g.on g.ra g.pv g.nn g.bo B d g.keys _ w hC hc hD hd (Same_f f g hn 0)).mono ?_
  rintro e w' ⟨rfl, h⟩
  exact ⟨rfl, by first | exact h | exact h.below⟩
theorem RRight_fr (f : FrD) (A : Option Addr) (c : Nat) (w : World) (hC : Kd.string.C w A f.keys.length f.keys) (hc : f.keys.length ≤ c) (hn : f.keys.length ≤ 1000000) :
    Calls Try.prog 9 #[frV f (.slice A f.keys.length c)] w fun e w' => e = .returned (.bool (rightF f)) ∧ Below w.heap.size w w' := by
  refine (demurralref08_Right.calls (0 + f.keys.length + 1 + 1) f.kd f.a f.b f.c f.i f.ba f.sg f.on f.ra f.pv f.nn f.bo A c f.keys _ w hC hc (RRight_f f hn 0)).mono ?_
  rintro e w' ⟨rfl, h⟩
  exact ⟨rfl, by first | exact h | exact h.below⟩
end Go.Proofs.Ytfghjahmnjghgaa

import Derived.Test.YtfghjahmnjghgaaDs
import Derived.Test.YtfghjahmnjghgaaDk
import Derived.Test.YtfghjahmnjghgaaDc
import Derived.Test.YtfghjahmnjghgaaVa
import Derived.Test.YtfghjahmnjghgaaDa
import Derived.Test.YtfghjahmnjghgaaDd
set_option linter.unusedSimpArgs false
/- LAYER 12: the document's answer for a table, plainly. -/
namespace Go.Proofs.Ytfghjahmnjghgaa.Sk
open Go.RowKit Go.Proofs.YtfghjahmnjghgaaW.PrintWords Go.Proofs.YtfghjahmnjghgaaW.PrintLast
abbrev S79 := PSkippedFills.S79
abbrev k79 := PSkippedFills.k79
deriving instance DecidableEq for KeptD
def toS (x : KeptD) : S79 := ⟨x.r, x.n, x.k⟩
theorem C_toS {w : World} {A : Option Addr} {n : Nat} {xs : List KeptD} (h : Kd.C kK w A n xs) : Kd.C k79 w A n (xs.map toS) := by
  obtain ⟨h1, h2, h3⟩ := h
  refine ⟨by simpa using h1, h2, fun hp => ?_⟩
  obtain ⟨ad, e, hc⟩ := h3 hp
  refine ⟨ad, e, fun j p hj => ?_⟩
  rw [List.getElem?_map] at hj
  obtain ⟨q, hq, rfl⟩ := Option.map_eq_some_iff.1 hj
  obtain ⟨c, hl, hK, hcell⟩ := hc j q hq
  obtain rfl : c = encK q := hK
  exact ⟨_, rfl, PSkippedFills.k79_mk w (toS q), hcell⟩
theorem C_ofS {w : World} {A : Option Addr} {n : Nat} {xs : List KeptD} (h : Kd.C k79 w A n (xs.map toS)) : Kd.C kK w A n xs := by
  obtain ⟨h1, h2, h3⟩ := h
  refine ⟨by simpa using h1, h2, fun hp => ?_⟩
  obtain ⟨ad, e, hc⟩ := h3 hp
  refine ⟨ad, e, fun j p hj => ?_⟩
  obtain ⟨c, hl, hK, hcell⟩ := hc j (toS p) (by rw [List.getElem?_map, hj]; rfl)
  obtain rfl := PSkippedFills.k79_open hK
  exact ⟨_, rfl, rfl, hcell⟩
theorem R_Out {α : Type} {d : Kd α} {e base : Nat} {ok : Nat → Prop} {w : World} {v : Value} {xs : List α} (h : d.R e w base ok v xs) : Out d w v xs := by
  obtain ⟨_, inner, ho, hr⟩ := h
  have hn : xs.length = xs.length := rfl
  obtain ⟨A, c, he, hc⟩ := own_reads_row ho (hr.imp_ (fun _ _ hp => d.K_of_M hp)) rfl
  refine ⟨A, c, he, ?_, ?_, hc⟩
  all_goals
    rcases ho.2 with ⟨e1, h0⟩ | ⟨g, cap, cur, e1, _, _, h2, h3, _⟩
    · rw [e1] at he; injection he with _ _ he; subst he; omega
    · rw [e1] at he; injection he with _ _ he; subst he; simp only [maxLen] at h3; omega
theorem Out_ofS {w : World} {v : Value} {xs : List KeptD} (h : Out k79 w v (xs.map toS)) : Out kK w v xs := by
  obtain ⟨A, c, rfl, h1, h2, h3⟩ := h
  rw [List.length_map] at h1 h3
  exact ⟨A, c, by rw [List.length_map], h1, h2, C_ofS h3⟩
theorem wrap1 (i : Nat) (h : i < 1000000) : wrap64 ((i : Int) + 1) = ((i + 1 : Nat) : Int) := by unfold wrap64; omega
theorem rd_map {xs : List KeptD} {i : Nat} {p : KeptD} (h : xs[i]? = some p) : PSkippedFills.rd_T79 (xs.map toS) (i : Int) = toS p := by
  unfold PSkippedFills.rd_T79
  rw [List.getD_eq_getElem?_getD, List.getElem?_map, Int.toNat_natCast, h]; rfl
theorem toList_inj {a b : ByteArray} : (a.toList == b.toList) = decide (a = b) := by
  rw [Bool.eq_iff_iff, beq_iff_eq, decide_eq_true_iff, ByteArray.toList_eq, ByteArray.toList_eq]
  constructor
  · intro h
    cases a; cases b; congr 1; exact Array.toList_inj.1 h
  · rintro rfl; rfl
theorem sizedS (x : KeptD) : PSkippedFills.demurralref12_Sized.f (toS x).f0 (toS x).f1 (toS x).f2 = some (sizedK x) := by
  unfold PSkippedFills.demurralref12_Sized.f sizedK toS
  dsimp only
  by_cases h : x.r.size = 32
  · rw [if_pos (by omega), h, show ((x.k.size : Int) == 32) = (x.k.size == 32) from int_beq _ 32]; rfl
  · rw [if_neg (by omega), show (x.r.size == 32) = false by simpa using h]; rfl
theorem atS_l (xs : List KeptD) (r : ByteArray) (n : Nat) (hx : xs.length ≤ 1000) : ∀ k i : Nat, i ≤ xs.length → xs.length - i < k → (∀ q ∈ xs.take i, sameN q r n = false) → PSkippedFills.demurralref12_At.l0 k r n (xs.map toS) xs.length i = some (atI xs r n) := by
  intro k
  induction k with
  | zero => intro i _ h; omega
  | succ k ih =>
    intro i hi hk hn
    unfold PSkippedFills.demurralref12_At.l0
    by_cases hlt : i < xs.length
    · have hp := List.getElem?_eq_getElem hlt
      generalize xs[i] = p at hp
      rw [if_pos (by omega), if_pos (by omega), if_pos (by simp; omega), rd_map hp]
      have hs : sameN p r n = (p.r.toList == r.toList && p.n == n) := rfl
      cases h : sameN p r n
      · have hr := ih (i + 1) (by omega) (by omega) (none_next hp hn h)
        rw [wrap1 i (by omega), hr]
        by_cases h1 : p.r.toList = r.toList
        · have h2 : ¬ ((p.n : Int) = n) := by
            rw [h] at hs; simp [h1] at hs; omega
          rw [if_pos (by exact h1), if_neg (by exact h2)]
        · rw [if_neg (by exact h1)]
      · rw [h] at hs
        simp at hs
        rw [if_pos (by exact hs.1), if_pos (by show (p.n : Int) = n; rw [hs.2]), atI_hit hp hn h]
    · rw [if_neg (by omega), atI_miss]
      rw [List.take_of_length_le (by omega)] at hn
      exact hn
theorem atS (xs : List KeptD) (r : ByteArray) (n : Nat) (k : Nat) (hx : xs.length ≤ 1000) (hk : xs.length < k) : PSkippedFills.demurralref12_At.f k (xs.map toS) r n = some (atI xs r n) := by
  unfold PSkippedFills.demurralref12_At.f
  rw [List.length_map]
  exact atS_l xs r n hx k 0 (by omega) (by omega) (by simp)
theorem rightS_l (xs : List KeptD) (hx : xs.length ≤ 1000) : ∀ k i : Nat, i ≤ xs.length → 2 * xs.length - i < k → (∀ j < i, okAt xs j = true) → PSkippedFills.demurralref12_Right.l0 k (xs.map toS) (xs.map toS) xs.length i = some (rightK xs) := by
  intro k
  induction k with
  | zero => intro i _ h; omega
  | succ k ih =>
    intro i hi hk hn
    unfold PSkippedFills.demurralref12_Right.l0
    by_cases hlt : i < xs.length
    · have hp := List.getElem?_eq_getElem hlt
      generalize xs[i] = p at hp
      rw [if_pos (by omega), if_pos (by omega), if_pos (by simp; omega), rd_map hp, sizedS, Option.bind_some]
      have hb : okAt xs i = false → rightK xs = false := fun h => by
        unfold rightK
        rw [Bool.and_eq_false_iff]
        left
        rw [List.all_eq_false]
        exact ⟨i, List.mem_range.2 hlt, by simp [h]⟩
      have hs : okAt xs i = (sizedK p && decide (atI (xs.take i) p.r p.n < 0)) := by unfold okAt; rw [hp]
      cases h1 : sizedK p
      · rw [if_neg (by decide), hb (by rw [hs, h1]; rfl)]
      · rw [if_pos rfl, if_pos (by simp; omega), ← List.map_take, show ((i : Int)).toNat = i from rfl, show (toS p).f0 = p.r from rfl, show (toS p).f1 = (p.n : Int) from rfl, atS (xs.take i) _ _ k (by simp; omega) (by simp; omega), Option.bind_some]
        by_cases h2 : atI (xs.take i) p.r p.n < 0
        · rw [if_neg (by omega), wrap1 i (by omega)]
          refine ih (i + 1) (by omega) (by omega) (fun j hj => ?_)
          by_cases hji : j = i
          · subst hji; rw [hs, h1, decide_eq_true h2]; rfl
          · exact hn j (by omega)
        · rw [if_pos (by omega), hb (by rw [hs, h1, decide_eq_false h2]; rfl)]
    · rw [if_neg (by omega), List.length_map]
      congr 1
      unfold rightK
      rw [show (List.range xs.length).all (okAt xs) = true from List.all_eq_true.2 (fun j hj => hn j (by have := List.mem_range.1 hj; omega)), Bool.true_and]
      exact decide_eq_decide.2 (by omega)
theorem rightS (xs : List KeptD) (hx : xs.length ≤ 1000) : PSkippedFills.demurralref12_Right.f (2 * xs.length + 1) (xs.map toS) = some (rightK xs) := by
  unfold PSkippedFills.demurralref12_Right.f
  rw [List.length_map]
  exact rightS_l xs hx _ 0 (by omega) (by omega) (by intro j hj; omega)
theorem eqS (p q : KeptD) : (!((((toS p).f0).toList) == (((toS q).f0).toList)) || (!(((toS p).f1) == ((toS q).f1)) || (!((((toS p).f2).toList) == (((toS q).f2).toList))))) = !decide (p = q) := by
  obtain ⟨a, b, c⟩ := p
  obtain ⟨a', b', c'⟩ := q
  show (!(a.toList == a'.toList) || (!((b : Int) == (b' : Int)) || !(c.toList == c'.toList))) = _
  rw [toList_inj, toList_inj, int_beq, Bool.eq_iff_iff]
  by_cases h1 : a = a' <;> by_cases h2 : b = b' <;> by_cases h3 : c = c' <;> simp [h1, h2, h3]
theorem drop_ne {α : Type} [DecidableEq α] {xs ys : List α} {i : Nat} {p q : α} (hx : xs[i]? = some p) (hy : ys[i]? = some q) : decide (xs.drop i = ys.drop i) = (decide (p = q) && decide (xs.drop (i + 1) = ys.drop (i + 1))) := by
  obtain ⟨h1, rfl⟩ := List.getElem?_eq_some_iff.1 hx
  obtain ⟨h2, rfl⟩ := List.getElem?_eq_some_iff.1 hy
  rw [List.drop_eq_getElem_cons h1, List.drop_eq_getElem_cons h2, Bool.eq_iff_iff]
  simp only [decide_eq_true_iff, Bool.and_eq_true, List.cons.injEq]
theorem sameS_l (xs ys : List KeptD) (hx : xs.length ≤ 1000) (hy : ys.length = xs.length) : ∀ k i : Nat, i ≤ xs.length → xs.length - i < k → PSkippedFills.demurralref12_Same.l0 k (xs.map toS) (ys.map toS) xs.length i = some (decide (xs.drop i = ys.drop i)) := by
  intro k
  induction k with
  | zero => intro i _ h; omega
  | succ k ih =>
    intro i hi hk
    unfold PSkippedFills.demurralref12_Same.l0
    by_cases hlt : i < xs.length
    · have hp := List.getElem?_eq_getElem hlt
      have hq := List.getElem?_eq_getElem (hy ▸ hlt : i < ys.length)
      generalize xs[i] = p at hp
      generalize ys[i] = q at hq
      rw [if_pos (by omega), if_pos (by omega), if_pos (by simp; omega), if_pos (by simp; omega), rd_map hp, rd_map hq, eqS, drop_ne hp hq]
      by_cases h : p = q
      · rw [if_neg (by simp [h]), wrap1 i (by omega), ih (i + 1) (by omega) (by omega), decide_eq_true h]; rfl
      · rw [if_pos (by simp [h]), decide_eq_false h]; rfl
    · rw [if_neg (by omega), List.drop_eq_nil_of_le (by omega), List.drop_eq_nil_of_le (by omega)]; rfl
theorem sameS (xs ys : List KeptD) (hx : xs.length ≤ 1000) : PSkippedFills.demurralref12_Same.f (xs.length + 1) (xs.map toS) (ys.map toS) = some (decide (xs = ys)) := by
  unfold PSkippedFills.demurralref12_Same.f
  rw [List.length_map, List.length_map]
  by_cases h : xs.length = ys.length
  · rw [if_pos (by omega)]
    exact sameS_l xs ys hx h.symm _ 0 (by omega) (by omega)
  · rw [if_neg (by omega), decide_eq_false (fun e => h (by rw [e]))]
theorem Same12_any (A : Option Addr) (n c : Nat) (xs : List KeptD) (B : Option Addr) (m cb : Nat) (ys : List KeptD) (w : World) (h1 : Kd.C kK w A n xs) (hc : n ≤ c) (h2 : Kd.C kK w B m ys) (hcb : m ≤ cb) (hn : n ≤ 1000) :
    Calls Try.prog 38 #[.slice A n c, .slice B m cb] w fun e w' => e = .returned (.bool (decide (xs = ys))) ∧ Below w.heap.size w w' := by
  have e1 := h1.1
  have e2 := h2.1
  subst e1; subst e2
  have := PSkippedFills.demurralref12_Same.calls (xs.length + 1) A c (xs.map toS) B cb (ys.map toS) (decide (xs = ys)) w (by rw [List.length_map]; exact C_toS h1) (by rw [List.length_map]; exact hc) (by rw [List.length_map]; exact C_toS h2) (by rw [List.length_map]; exact hcb) (sameS xs ys hn)
  rw [List.length_map, List.length_map] at this
  exact this.mono fun _ _ h => ⟨h.1, h.2.below⟩
theorem RAt_any (A : Option Addr) (n c : Nat) (xs : List KeptD) (r : ByteArray) (m : Nat) (w : World) (h1 : Kd.C kK w A n xs) (hc : n ≤ c) (hn : n ≤ 1000) :
    Calls Try.prog 53 #[.slice A n c, .string r, .int .u64 m] w fun e w' => e = .returned (.int .i64 (atI xs r m)) ∧ Below w.heap.size w w' := by
  have e1 := h1.1
  subst e1
  have := PSkippedFills.demurralref12_At.calls (xs.length + 1) A c (xs.map toS) r m (atI xs r m) w (by rw [List.length_map]; exact C_toS h1) (by rw [List.length_map]; exact hc) (atS xs r m _ hn (by omega))
  rw [List.length_map] at this
  exact this
theorem RRight_any (A : Option Addr) (n c : Nat) (xs : List KeptD) (w : World) (h1 : Kd.C kK w A n xs) (hc : n ≤ c) (hn : n ≤ 1000) :
    Calls Try.prog 37 #[.slice A n c] w fun e w' => e = .returned (.bool (rightK xs)) ∧ Below w.heap.size w w' := by
  have e1 := h1.1
  subst e1
  have := PSkippedFills.demurralref12_Right.calls (2 * xs.length + 1) A c (xs.map toS) (rightK xs) w (by rw [List.length_map]; exact C_toS h1) (by rw [List.length_map]; exact hc) (rightS xs hn)
  rw [List.length_map] at this
  exact this
theorem RSized_any (x : KeptD) (w : World) :
    Calls Try.prog 52 #[.agg #[.string x.r, .int .u64 x.n, .string x.k]] w fun e w' => e = .returned (.bool (sizedK x)) ∧ Below w.heap.size w w' :=
  PSkippedFills.demurralref12_Sized.calls _ _ _ _ w (sizedS x)
end Go.Proofs.Ytfghjahmnjghgaa.Sk

set_option linter.unusedSimpArgs false
set_option linter.unusedVariables false
/- LAYER 13: the document's answer: may a session be? -/
namespace Go.Proofs.Ytfghjahmnjghgaa
open Go.RowKit Go.Proofs.YtfghjahmnjghgaaW.PrintWords
attribute [local irreducible] Calls
theorem ropen_any (s : ByteArray) (w : World) : Calls Try.prog 36 #[.string s] w fun e w' => e = .returned (.bool (openB s)) ∧ w' = w := by
  have e2 : s.toList.isEmpty = noneB s := by
    have e1 : (s.toList == []) = noneB s := by unfold noneB; rw [Bool.eq_iff_iff, beq_iff_eq, beq_iff_eq]; exact none_iff s
    rw [← e1]; cases s.toList <;> rfl
  have e3 : (s.toList == []) = noneB s := by unfold noneB; rw [Bool.eq_iff_iff, beq_iff_eq, beq_iff_eq]; exact none_iff s
  have e4 : ((s.size : Int) == 32) = sizB s := by unfold sizB; rw [Bool.eq_iff_iff, beq_iff_eq, beq_iff_eq]; omega
  unfold openB
  generalize noneB s = b at *
  generalize sizB s = c at *
  cases b
  · rw [Bool.or_false]
    go_enter Try.func36, Try.ntmps36
    go_wp2
    go_ret
    exact ⟨by first | rfl | rw [← e4] | (rw [← e4]; rfl), rfl⟩
  · rw [Bool.or_true]
    go_enter Try.func36, Try.ntmps36
    go_wp2
    go_ret
    exact ⟨by first | rfl | rw [← e4] | (rw [← e4]; rfl), rfl⟩
theorem oddL_false {ks : List ByteArray} {i : Nat} {x : ByteArray} (ho : oddL (ks.take i) = false) (hx : ks[i]? = some x) (hq : x.size = 32) : oddL (ks.take (i + 1)) = false := by
  rw [List.take_add_one, hx]
  unfold oddL at *
  rw [List.any_append, ho]
  simp [hq]
theorem oddL_true {ks : List ByteArray} {i : Nat} {x : ByteArray} (hx : ks[i]? = some x) (hq : ¬ x.size = 32) : oddL ks = true := by
  unfold oddL
  rw [List.any_eq_true]
  exact ⟨x, List.mem_of_getElem? hx, by simp [hq]⟩
theorem empF (s : ByteArray) : (s.toList == []) = noneB s := by unfold noneB; rw [Bool.eq_iff_iff, beq_iff_eq, beq_iff_eq]; exact none_iff s
theorem empG (s : ByteArray) : s.toList.isEmpty = noneB s := by rw [← empF]; cases s.toList <;> rfl
set_option maxHeartbeats 8000000 in
set_option maxRecDepth 100000 in
theorem RSRight_any (s : SesD) (K : Option Addr) (kc : Nat) (U : Option Addr) (uc : Nat) (w : World) (hK : Kd.C Sk.kK w K s.kept.length s.kept) (hkc : s.kept.length ≤ kc) (hkn : s.kept.length ≤ 1000) (hU : Kd.string.C w U s.used.length s.used) (huc : s.used.length ≤ uc) (hun : s.used.length ≤ 1000000) :
    Calls Try.prog 19 #[sesV s (.slice K s.kept.length kc) (.slice U s.used.length uc)] w fun e w' => e = .returned (.bool (rightS s)) ∧ Below w.heap.size w w' := by
  have HK := Lib.hid (fun w1 (hg : Below w.heap.size w w1) => Sk.RRight_any K s.kept.length kc s.kept w1 (Kd.C_below hK hg) hkc hkn)
  have HU := Lib.hid (fun w1 (hg : Below w.heap.size w w1) => Kd.C_below hU hg)
  have HR := Lib.hid (show rightS s = (openB s.pe && openB s.se && openB s.re && sizB s.ow && sizB s.ro && (noneB s.pe == (noneB s.re && noneB s.se)) && Sk.rightK s.kept && decide (s.used.length ≤ 40) && !(oddL s.used) && decide (max (max s.st s.gt) s.pv < 4294967296)) from rfl)
  clear hK hkc hkn hU huc
  generalize rightS s = rr at *
  obtain ⟨ow, pe, ro, se, re, st, gt, pv, kept, used⟩ := s
  unfold sesV sesC
  dsimp only at *
  generalize hnn : used.length = un at *
  have HN := Lib.hid hnn
  clear hnn
  generalize kept.length = kn at *
  have HO1 := Lib.hid (fun w1 => ropen_any pe w1)
  have HO2 := Lib.hid (fun w1 => ropen_any se w1)
  have HO3 := Lib.hid (fun w1 => ropen_any re w1)
  have s0 : ((ow.size : Int) != 32) = !(sizB ow) := by unfold sizB; rw [Bool.eq_iff_iff]; simp; omega
  have s1 : ((ro.size : Int) != 32) = !(sizB ro) := by unfold sizB; rw [Bool.eq_iff_iff]; simp; omega
  have p1 := empF pe
  have p2 := empG pe
  have r1 := empF re
  have r2 := empG re
  have q1 := empF se
  have q2 := empG se
  generalize sizB ow = b0 at *
  generalize sizB ro = b1 at *
  generalize openB pe = z1 at *
  generalize openB se = z2 at *
  generalize openB re = z3 at *
  generalize noneB pe = bp at *
  generalize noneB re = br at *
  generalize noneB se = bs at *
  generalize Sk.rightK kept = bk at *
  have HO := (Own.start w).alloc' (.cells #[.string ow, .string pe, .string ro, .string se, .string re, .int .u64 (st : Int), .int .u64 (gt : Int), .int .u64 (pv : Int), .slice K kn kc, .slice U un uc] 36) rfl
  have c0 := HO.cell 0 rfl
  cases b0
  · go_enter Try.func19, Try.ntmps19
    go_wp2
    go_ret
    exact ⟨ret_congr (by rw [HR.out]; simp), HO.below⟩
  · cases b1
    · go_enter Try.func19, Try.ntmps19
      go_wp2
      go_ret
      exact ⟨ret_congr (by rw [HR.out]; simp), HO.below⟩
    · go_enter Try.func19, Try.ntmps19
      cases z1
      · skip
        go_wp2_with fail
        refine (HO1.out _).mono ?_
        rintro e w1 ⟨rfl, rfl⟩
        go_wp2
        go_ret
        exact ⟨ret_congr (by rw [HR.out]; simp), HO.below⟩
      · cases z2
        · skip
          go_wp2_with fail
          refine (HO1.out _).mono ?_
          rintro e w1 ⟨rfl, rfl⟩
          go_wp2_with fail
          refine (HO2.out _).mono ?_
          rintro e w1 ⟨rfl, rfl⟩
          go_wp2
          go_ret
          exact ⟨ret_congr (by rw [HR.out]; simp), HO.below⟩
        · cases z3
          · skip
            go_wp2_with fail
            refine (HO1.out _).mono ?_
            rintro e w1 ⟨rfl, rfl⟩
            go_wp2_with fail
            refine (HO2.out _).mono ?_
            rintro e w1 ⟨rfl, rfl⟩
            go_wp2_with fail
            refine (HO3.out _).mono ?_
            rintro e w1 ⟨rfl, rfl⟩
            go_wp2
            go_ret
            exact ⟨ret_congr (by rw [HR.out]; simp), HO.below⟩
          · rw [Bool.true_and, Bool.true_and, Bool.true_and, Bool.true_and] at HR
            by_cases hu : un ≤ 40
            · have k1 : ¬ ((un : Int) > 40) := by omega
              rw [decide_eq_true hu] at HR
              clear hu
              go_wp2_with fail
              refine (HO1.out _).mono ?_
              rintro e w1 ⟨rfl, rfl⟩
              go_wp2_with fail
              refine (HO2.out _).mono ?_
              rintro e w1 ⟨rfl, rfl⟩
              go_wp2_with fail
              refine (HO3.out _).mono ?_
              rintro e w1 ⟨rfl, rfl⟩
              go_wp2_with fail
              go_loop [42] (fun c => ∃ i : Nat, c = .int .i64 (i : Int) ∧ Aside0 (i ≤ un ∧ oddL (used.take i) = false)) (fun c => un - (intOf c).toNat)
              case atStart => exact ⟨0, rfl, ⟨by omega, rfl⟩⟩
              case round =>
                obtain ⟨i, rfl, hrel⟩ := hrel
                obtain ⟨hi, ho⟩ := hrel.out
                clear hrel
                by_cases hlt : i < un
                · have i1 : (i : Int) < (un : Int) := by omega
                  have i0 : (0 : Int) ≤ (i : Int) := by omega
                  obtain ⟨bk', of, rfl, hcell, _⟩ := C_plF (HU.out _ HO.below) (by omega)
                  obtain ⟨x, hx⟩ : ∃ x, used[i]? = some x := ⟨_, List.getElem?_eq_getElem (by rw [HN.out]; omega)⟩
                  have c1 := hcell i x hx
                  by_cases hq : x.size = 32
                  · have ho' := Lib.hid (oddL_false ho hx hq)
                    have hb : ((x.size : Int) != 32) = false := by simp; omega
                    have HI := Lib.hid (show i + 1 ≤ un by omega)
                    clear hx hq ho hcell
                    go_wp2
                    go_round
                    case rel => exact ⟨i + 1, by go_num, ⟨HI.out, ho'.out⟩⟩
                    case measure => simp [intOf]; omega
                  · have hb : ((x.size : Int) != 32) = true := by simp; omega
                    rw [oddL_true hx hq] at HR
                    clear hx hq ho hcell
                    go_wp2
                    go_ret
                    exact ⟨ret_congr (by rw [HR.out]; simp), HO.below⟩
                · have hge : ¬ ((i : Int) < (un : Int)) := by omega
                  rw [List.take_of_length_le (by have := HN.out; omega)] at ho
                  rw [ho] at HR
                  clear ho hlt hi
                  by_cases hm : max (max st gt) pv < 4294967296
                  · rw [decide_eq_true hm] at HR
                    have m1 : (st : Int) < 4294967296 := by omega
                    have m2 : (gt : Int) < 4294967296 := by omega
                    have m3 : (pv : Int) < 4294967296 := by omega
                    clear hm
                    cases br <;> cases bs <;> cases bp
                    · cases bk
                      · skip
                        go_wp2_with fail
                        refine (HK.out _ HO.below).mono ?_
                        rintro e w1 ⟨rfl, hb⟩
                        replace HO := HO.up hb
                        have c0 := HO.cell 0 rfl
                        clear hb
                        go_wp2
                        go_ret
                        exact ⟨ret_congr (by rw [HR.out]; first | (with_reducible rfl) | simp [m1, m2, m3]), HO.below⟩
                      · skip
                        go_wp2_with fail
                        refine (HK.out _ HO.below).mono ?_
                        rintro e w1 ⟨rfl, hb⟩
                        replace HO := HO.up hb
                        have c0 := HO.cell 0 rfl
                        clear hb
                        go_wp2
                        go_ret
                        exact ⟨ret_congr (by rw [HR.out]; first | (with_reducible rfl) | simp [m1, m2, m3]), HO.below⟩
                    · skip
                      go_wp2
                      go_ret
                      exact ⟨ret_congr (by rw [HR.out]; simp), HO.below⟩
                    · cases bk
                      · skip
                        go_wp2_with fail
                        refine (HK.out _ HO.below).mono ?_
                        rintro e w1 ⟨rfl, hb⟩
                        replace HO := HO.up hb
                        have c0 := HO.cell 0 rfl
                        clear hb
                        go_wp2
                        go_ret
                        exact ⟨ret_congr (by rw [HR.out]; first | (with_reducible rfl) | simp [m1, m2, m3]), HO.below⟩
                      · skip
                        go_wp2_with fail
                        refine (HK.out _ HO.below).mono ?_
                        rintro e w1 ⟨rfl, hb⟩
                        replace HO := HO.up hb
                        have c0 := HO.cell 0 rfl
                        clear hb
                        go_wp2
                        go_ret
                        exact ⟨ret_congr (by rw [HR.out]; first | (with_reducible rfl) | simp [m1, m2, m3]), HO.below⟩
                    · skip
                      go_wp2
                      go_ret
                      exact ⟨ret_congr (by rw [HR.out]; simp), HO.below⟩
                    · cases bk
                      · skip
                        go_wp2_with fail
                        refine (HK.out _ HO.below).mono ?_
                        rintro e w1 ⟨rfl, hb⟩
                        replace HO := HO.up hb
                        have c0 := HO.cell 0 rfl
                        clear hb
                        go_wp2
                        go_ret
                        exact ⟨ret_congr (by rw [HR.out]; first | (with_reducible rfl) | simp [m1, m2, m3]), HO.below⟩
                      · skip
                        go_wp2_with fail
                        refine (HK.out _ HO.below).mono ?_
                        rintro e w1 ⟨rfl, hb⟩
                        replace HO := HO.up hb
                        have c0 := HO.cell 0 rfl
                        clear hb
                        go_wp2
                        go_ret
                        exact ⟨ret_congr (by rw [HR.out]; first | (with_reducible rfl) | simp [m1, m2, m3]), HO.below⟩
                    · skip
                      go_wp2
                      go_ret
                      exact ⟨ret_congr (by rw [HR.out]; simp), HO.below⟩
                    · skip
                      go_wp2
                      go_ret
                      exact ⟨ret_congr (by rw [HR.out]; simp), HO.below⟩
                    · cases bk
                      · skip
                        go_wp2_with fail
                        refine (HK.out _ HO.below).mono ?_
                        rintro e w1 ⟨rfl, hb⟩
                        replace HO := HO.up hb
                        have c0 := HO.cell 0 rfl
                        clear hb
                        go_wp2
                        go_ret
                        exact ⟨ret_congr (by rw [HR.out]; first | (with_reducible rfl) | simp [m1, m2, m3]), HO.below⟩
                      · skip
                        go_wp2_with fail
                        refine (HK.out _ HO.below).mono ?_
                        rintro e w1 ⟨rfl, hb⟩
                        replace HO := HO.up hb
                        have c0 := HO.cell 0 rfl
                        clear hb
                        go_wp2
                        go_ret
                        exact ⟨ret_congr (by rw [HR.out]; first | (with_reducible rfl) | simp [m1, m2, m3]), HO.below⟩
                  · rw [decide_eq_false hm] at HR
                    by_cases m1 : (st : Int) < 4294967296
                    · by_cases m2 : (gt : Int) < 4294967296
                      · have m3 : ¬ (pv : Int) < 4294967296 := by omega
                        clear hm
                        cases br <;> cases bs <;> cases bp
                        · cases bk
                          · skip
                            go_wp2_with fail
                            refine (HK.out _ HO.below).mono ?_
                            rintro e w1 ⟨rfl, hb⟩
                            replace HO := HO.up hb
                            have c0 := HO.cell 0 rfl
                            clear hb
                            go_wp2
                            go_ret
                            exact ⟨ret_congr (by rw [HR.out]; first | (with_reducible rfl) | simp [m1, m2, m3]), HO.below⟩
                          · skip
                            go_wp2_with fail
                            refine (HK.out _ HO.below).mono ?_
                            rintro e w1 ⟨rfl, hb⟩
                            replace HO := HO.up hb
                            have c0 := HO.cell 0 rfl
                            clear hb
                            go_wp2
                            go_ret
                            exact ⟨ret_congr (by rw [HR.out]; first | (with_reducible rfl) | simp [m1, m2, m3]), HO.below⟩
                        · skip
                          go_wp2
                          go_ret
                          exact ⟨ret_congr (by rw [HR.out]; simp), HO.below⟩
                        · cases bk
                          · skip
                            go_wp2_with fail
                            refine (HK.out _ HO.below).mono ?_
                            rintro e w1 ⟨rfl, hb⟩
                            replace HO := HO.up hb
                            have c0 := HO.cell 0 rfl
                            clear hb
                            go_wp2
                            go_ret
                            exact ⟨ret_congr (by rw [HR.out]; first | (with_reducible rfl) | simp [m1, m2, m3]), HO.below⟩
                          · skip
                            go_wp2_with fail
                            refine (HK.out _ HO.below).mono ?_
                            rintro e w1 ⟨rfl, hb⟩
                            replace HO := HO.up hb
                            have c0 := HO.cell 0 rfl
                            clear hb
                            go_wp2
                            go_ret
                            exact ⟨ret_congr (by rw [HR.out]; first | (with_reducible rfl) | simp [m1, m2, m3]), HO.below⟩
                        · skip
                          go_wp2
                          go_ret
                          exact ⟨ret_congr (by rw [HR.out]; simp), HO.below⟩
                        · cases bk
                          · skip
                            go_wp2_with fail
                            refine (HK.out _ HO.below).mono ?_
                            rintro e w1 ⟨rfl, hb⟩
                            replace HO := HO.up hb
                            have c0 := HO.cell 0 rfl
                            clear hb
                            go_wp2
                            go_ret
                            exact ⟨ret_congr (by rw [HR.out]; first | (with_reducible rfl) | simp [m1, m2, m3]), HO.below⟩
                          · skip
                            go_wp2_with fail
                            refine (HK.out _ HO.below).mono ?_
                            rintro e w1 ⟨rfl, hb⟩
                            replace HO := HO.up hb
                            have c0 := HO.cell 0 rfl
                            clear hb
                            go_wp2
                            go_ret
                            exact ⟨ret_congr (by rw [HR.out]; first | (with_reducible rfl) | simp [m1, m2, m3]), HO.below⟩
                        · skip
                          go_wp2
                          go_ret
                          exact ⟨ret_congr (by rw [HR.out]; simp), HO.below⟩
                        · skip
                          go_wp2
                          go_ret
                          exact ⟨ret_congr (by rw [HR.out]; simp), HO.below⟩
                        · cases bk
                          · skip
                            go_wp2_with fail
                            refine (HK.out _ HO.below).mono ?_
                            rintro e w1 ⟨rfl, hb⟩
                            replace HO := HO.up hb
                            have c0 := HO.cell 0 rfl
                            clear hb
                            go_wp2
                            go_ret
                            exact ⟨ret_congr (by rw [HR.out]; first | (with_reducible rfl) | simp [m1, m2, m3]), HO.below⟩
                          · skip
                            go_wp2_with fail
                            refine (HK.out _ HO.below).mono ?_
                            rintro e w1 ⟨rfl, hb⟩
                            replace HO := HO.up hb
                            have c0 := HO.cell 0 rfl
                            clear hb
                            go_wp2
                            go_ret
                            exact ⟨ret_congr (by rw [HR.out]; first | (with_reducible rfl) | simp [m1, m2, m3]), HO.below⟩
                      · have m2' : decide ((gt : Int) < 4294967296) = false := decide_eq_false m2
                        clear hm
                        cases br <;> cases bs <;> cases bp
                        · cases bk
                          · skip
                            go_wp2_with fail
                            refine (HK.out _ HO.below).mono ?_
                            rintro e w1 ⟨rfl, hb⟩
                            replace HO := HO.up hb
                            have c0 := HO.cell 0 rfl
                            clear hb
                            go_wp2
                            go_ret
                            exact ⟨ret_congr (by rw [HR.out]; first | (with_reducible rfl) | simp [m1, m2]), HO.below⟩
                          · skip
                            go_wp2_with fail
                            refine (HK.out _ HO.below).mono ?_
                            rintro e w1 ⟨rfl, hb⟩
                            replace HO := HO.up hb
                            have c0 := HO.cell 0 rfl
                            clear hb
                            go_wp2
                            go_ret
                            exact ⟨ret_congr (by rw [HR.out]; first | (with_reducible rfl) | simp [m1, m2]), HO.below⟩
                        · skip
                          go_wp2
                          go_ret
                          exact ⟨ret_congr (by rw [HR.out]; simp), HO.below⟩
                        · cases bk
                          · skip
                            go_wp2_with fail
                            refine (HK.out _ HO.below).mono ?_
                            rintro e w1 ⟨rfl, hb⟩
                            replace HO := HO.up hb
                            have c0 := HO.cell 0 rfl
                            clear hb
                            go_wp2
                            go_ret
                            exact ⟨ret_congr (by rw [HR.out]; first | (with_reducible rfl) | simp [m1, m2]), HO.below⟩
                          · skip
                            go_wp2_with fail
                            refine (HK.out _ HO.below).mono ?_
                            rintro e w1 ⟨rfl, hb⟩
                            replace HO := HO.up hb
                            have c0 := HO.cell 0 rfl
                            clear hb
                            go_wp2
                            go_ret
                            exact ⟨ret_congr (by rw [HR.out]; first | (with_reducible rfl) | simp [m1, m2]), HO.below⟩
                        · skip
                          go_wp2
                          go_ret
                          exact ⟨ret_congr (by rw [HR.out]; simp), HO.below⟩
                        · cases bk
                          · skip
                            go_wp2_with fail
                            refine (HK.out _ HO.below).mono ?_
                            rintro e w1 ⟨rfl, hb⟩
                            replace HO := HO.up hb
                            have c0 := HO.cell 0 rfl
                            clear hb
                            go_wp2
                            go_ret
                            exact ⟨ret_congr (by rw [HR.out]; first | (with_reducible rfl) | simp [m1, m2]), HO.below⟩
                          · skip
                            go_wp2_with fail
                            refine (HK.out _ HO.below).mono ?_
                            rintro e w1 ⟨rfl, hb⟩
                            replace HO := HO.up hb
                            have c0 := HO.cell 0 rfl
                            clear hb
                            go_wp2
                            go_ret
                            exact ⟨ret_congr (by rw [HR.out]; first | (with_reducible rfl) | simp [m1, m2]), HO.below⟩
                        · skip
                          go_wp2
                          go_ret
                          exact ⟨ret_congr (by rw [HR.out]; simp), HO.below⟩
                        · skip
                          go_wp2
                          go_ret
                          exact ⟨ret_congr (by rw [HR.out]; simp), HO.below⟩
                        · cases bk
                          · skip
                            go_wp2_with fail
                            refine (HK.out _ HO.below).mono ?_
                            rintro e w1 ⟨rfl, hb⟩
                            replace HO := HO.up hb
                            have c0 := HO.cell 0 rfl
                            clear hb
                            go_wp2
                            go_ret
                            exact ⟨ret_congr (by rw [HR.out]; first | (with_reducible rfl) | simp [m1, m2]), HO.below⟩
                          · skip
                            go_wp2_with fail
                            refine (HK.out _ HO.below).mono ?_
                            rintro e w1 ⟨rfl, hb⟩
                            replace HO := HO.up hb
                            have c0 := HO.cell 0 rfl
                            clear hb
                            go_wp2
                            go_ret
                            exact ⟨ret_congr (by rw [HR.out]; first | (with_reducible rfl) | simp [m1, m2]), HO.below⟩
                    · have m1' : decide ((st : Int) < 4294967296) = false := decide_eq_false m1
                      clear hm
                      cases br <;> cases bs <;> cases bp
                      · cases bk
                        · skip
                          go_wp2_with fail
                          refine (HK.out _ HO.below).mono ?_
                          rintro e w1 ⟨rfl, hb⟩
                          replace HO := HO.up hb
                          have c0 := HO.cell 0 rfl
                          clear hb
                          go_wp2
                          go_ret
                          exact ⟨ret_congr (by rw [HR.out]; first | (with_reducible rfl) | simp [m1]), HO.below⟩
                        · skip
                          go_wp2_with fail
                          refine (HK.out _ HO.below).mono ?_
                          rintro e w1 ⟨rfl, hb⟩
                          replace HO := HO.up hb
                          have c0 := HO.cell 0 rfl
                          clear hb
                          go_wp2
                          go_ret
                          exact ⟨ret_congr (by rw [HR.out]; first | (with_reducible rfl) | simp [m1]), HO.below⟩
                      · skip
                        go_wp2
                        go_ret
                        exact ⟨ret_congr (by rw [HR.out]; simp), HO.below⟩
                      · cases bk
                        · skip
                          go_wp2_with fail
                          refine (HK.out _ HO.below).mono ?_
                          rintro e w1 ⟨rfl, hb⟩
                          replace HO := HO.up hb
                          have c0 := HO.cell 0 rfl
                          clear hb
                          go_wp2
                          go_ret
                          exact ⟨ret_congr (by rw [HR.out]; first | (with_reducible rfl) | simp [m1]), HO.below⟩
                        · skip
                          go_wp2_with fail
                          refine (HK.out _ HO.below).mono ?_
                          rintro e w1 ⟨rfl, hb⟩
                          replace HO := HO.up hb
                          have c0 := HO.cell 0 rfl
                          clear hb
                          go_wp2
                          go_ret
                          exact ⟨ret_congr (by rw [HR.out]; first | (with_reducible rfl) | simp [m1]), HO.below⟩
                      · skip
                        go_wp2
                        go_ret
                        exact ⟨ret_congr (by rw [HR.out]; simp), HO.below⟩
                      · cases bk
                        · skip
                          go_wp2_with fail
                          refine (HK.out _ HO.below).mono ?_
                          rintro e w1 ⟨rfl, hb⟩
                          replace HO := HO.up hb
                          have c0 := HO.cell 0 rfl
                          clear hb
                          go_wp2
                          go_ret
                          exact ⟨ret_congr (by rw [HR.out]; first | (with_reducible rfl) | simp [m1]), HO.below⟩
                        · skip
                          go_wp2_with fail
                          refine (HK.out _ HO.below).mono ?_
                          rintro e w1 ⟨rfl, hb⟩
                          replace HO := HO.up hb
                          have c0 := HO.cell 0 rfl
                          clear hb
                          go_wp2
                          go_ret
                          exact ⟨ret_congr (by rw [HR.out]; first | (with_reducible rfl) | simp [m1]), HO.below⟩
                      · skip
                        go_wp2
                        go_ret
                        exact ⟨ret_congr (by rw [HR.out]; simp), HO.below⟩
                      · skip
                        go_wp2
                        go_ret
                        exact ⟨ret_congr (by rw [HR.out]; simp), HO.below⟩
                      · cases bk
                        · skip
                          go_wp2_with fail
                          refine (HK.out _ HO.below).mono ?_
                          rintro e w1 ⟨rfl, hb⟩
                          replace HO := HO.up hb
                          have c0 := HO.cell 0 rfl
                          clear hb
                          go_wp2
                          go_ret
                          exact ⟨ret_congr (by rw [HR.out]; first | (with_reducible rfl) | simp [m1]), HO.below⟩
                        · skip
                          go_wp2_with fail
                          refine (HK.out _ HO.below).mono ?_
                          rintro e w1 ⟨rfl, hb⟩
                          replace HO := HO.up hb
                          have c0 := HO.cell 0 rfl
                          clear hb
                          go_wp2
                          go_ret
                          exact ⟨ret_congr (by rw [HR.out]; first | (with_reducible rfl) | simp [m1]), HO.below⟩
            · have k1 : (un : Int) > 40 := by omega
              rw [decide_eq_false hu] at HR
              clear hu
              go_wp2_with fail
              refine (HO1.out _).mono ?_
              rintro e w1 ⟨rfl, rfl⟩
              go_wp2_with fail
              refine (HO2.out _).mono ?_
              rintro e w1 ⟨rfl, rfl⟩
              go_wp2_with fail
              refine (HO3.out _).mono ?_
              rintro e w1 ⟨rfl, rfl⟩
              go_wp2
              go_ret
              exact ⟨ret_congr (by rw [HR.out]; simp), HO.below⟩
end Go.Proofs.Ytfghjahmnjghgaa

set_option linter.unusedSimpArgs false
/- slices.Grow, slices.Concat of two rows of texts; the document's answers for rows of texts and for empty sessions. -/
namespace Go.Proofs.Ytfghjahmnjghgaa
open Go.RowKit Go.Proofs.YtfghjahmnjghgaaW.PrintWords
theorem R_shape {α : Type} {d : Kd α} {e base : Nat} {ok : Nat → Prop} {w : World} {v : Value} {xs : List α} (h : d.R e w base ok v xs) : ∃ A cap, v = .slice A xs.length cap := by
  obtain ⟨_, inner, ho, _⟩ := h
  rcases ho.2 with ⟨rfl, h0⟩ | ⟨g, cap, cur, rfl, hb, _⟩
  · exact ⟨none, 0, by rw [h0]⟩
  · exact ⟨_, cap, rfl⟩
attribute [local irreducible] Calls
set_option maxHeartbeats 4000000 in
theorem Grow_nil (n : Nat) (hn : n ≤ 1000) (w : World) :
    Calls Try.prog 39 #[.slice none 0 0, .int .i64 (n : Int)] w fun e w' => ∃ v, e = .returned v ∧ Kd.string.R 9 w' w.heap.size (fun _ => True) v [] ∧ Below w.heap.size w w' := by
  by_cases h0 : n = 0
  · subst h0
    go_enter Try.func39, Try.ntmps39
    go_wp2
    go_ret
    exact ⟨_, rfl, Kd.R_nil _ _ _ _ _, Below.refl _ _⟩
  · have h1 : ¬ ((n : Int) < 0) := by omega
    have h2 : (n : Int) > 0 := by omega
    have hw : (n : Int) - 0 = (n : Int) := by omega
    go_enter Try.func39, Try.ntmps39
    go_wp2_with (at_builtin; refine Kd.R_append_zeros Kd.string w.heap.size rfl (.tmp 20) (.tmp 21) 23 3 9 (.string ⟨#[]⟩) 16 rfl Try.underlying23 Try.underlying3 info_strF rfl (by decide) (by decide) _ [] ⟨#[]⟩ _ (fun _ => True) rfl rfl rfl (fun _ _ => trivial) (Kd.R_nil _ _ _ _ _) (by omega) (Below.refl _ _) (Nat.le_refl _) (by simp; omega) ?_; intro v1 w1 hR hb _ _; obtain ⟨A, cap, hv⟩ := R_shape hR; rw [List.nil_append, Int.toNat_natCast, List.length_replicate] at hv; rw [List.nil_append, Int.toNat_natCast] at hR; subst hv)
    have hR2 := Kd.R_take (m := 0) hR (by omega)
    go_ret
    exact ⟨_, rfl, hR2, hb⟩
set_option maxHeartbeats 4000000 in
theorem Concat_two (g : Nat) (A : Option Addr) (n c : Nat) (xs : List ByteArray) (B : Option Addr) (m c2 : Nat) (ys : List ByteArray) (w : World) (h0 : w.cell? ⟨g, 0, none⟩ = some (.slice A n c)) (h1 : w.cell? ⟨g, 1, none⟩ = some (.slice B m c2))
    (hA : Kd.string.C w A n xs) (hB : Kd.string.C w B m ys) (hn : n ≤ 400) (hm : m ≤ 400) :
    Calls Try.prog 22 #[.slice (some ⟨g, 0, none⟩) 2 2] w fun e w' => (∃ v, e = .returned v ∧ Out Kd.string w' v (xs ++ ys)) ∧ Below w.heap.size w w' := by
  have hla := hA.1
  have hlb := hB.1
  have HA := Lib.hid (fun w1 (hg : Gr w w1) => Kd.C_below hA hg)
  have HB := Lib.hid (fun w1 (hg : Gr w w1) => Kd.C_below hB hg)
  have H0 := Lib.hid h0
  have H1 := Lib.hid h1
  have HLA := Lib.hid hla
  have HLB := Lib.hid hlb
  clear hA hB hla hlb
  have hs1 : (n : Int) + (m : Int) = ((n + m : Nat) : Int) := by omega
  have HS1 := Lib.hid hs1
  clear hs1
  go_enter Try.func22, Try.ntmps22
  go_wp2_with fail
  go_loop [3, 11] (fun c3 c11 => (c11 = .int .i64 0 ∧ c3 = .int .i64 0) ∨ (c11 = .int .i64 1 ∧ c3 = .int .i64 (n : Int)) ∨ (c11 = .int .i64 2 ∧ c3 = .int .i64 ((n + m : Nat) : Int))) (fun _ c11 => 2 - (intOf c11).toNat)
  case atStart => exact .inl ⟨rfl, rfl⟩
  case round =>
    rcases hrel with ⟨rfl, rfl⟩ | ⟨rfl, rfl⟩ | ⟨rfl, rfl⟩
    · have g1 : ¬ ((n : Int) < 0) := by omega
      go_wp2
      go_round
      case rel => exact .inr (.inl ⟨rfl, by go_num⟩)
      case measure => simp [intOf]
    · have g1 : ¬ ((n : Int) + (m : Int) < 0) := by omega
      go_wp2
      go_round
      case rel => exact .inr (.inr ⟨rfl, by rw [← HS1.out]⟩)
      case measure => simp [intOf]
    · have HG := Lib.hid (Grow_nil (n + m) (by omega) w)
      clear h0 h1
      go_wp2_with fail
      refine HG.out.mono ?_
      rintro e w1 ⟨v, rfl, hR, hb⟩
      have HR := Lib.hid hR
      have HBW := Lib.hid hb
      clear hR hb HG
      go_wp2_with fail
      go_loopw [6, 27] (fun c6 c27 wr => (c27 = .int .i64 0 ∧ Aside0 (Kd.string.R 9 wr w.heap.size (fun _ => True) c6 []) ∧ Aside0 (Below w.heap.size w wr)) ∨ (c27 = .int .i64 1 ∧ Aside0 (Kd.string.R 9 wr w.heap.size (fun _ => True) c6 xs) ∧ Aside0 (Below w.heap.size w wr)) ∨
        (c27 = .int .i64 2 ∧ Aside0 (Kd.string.R 9 wr w.heap.size (fun _ => True) c6 (xs ++ ys)) ∧ Aside0 (Below w.heap.size w wr))) (fun _ c27 _ => 2 - (intOf c27).toNat)
      case atStart => exact .inl ⟨rfl, ⟨HR.out⟩, ⟨HBW.out⟩⟩
      case round =>
        clear HR HBW
        rcases hrel with ⟨rfl, hR, hb⟩ | ⟨rfl, hR, hb⟩ | ⟨rfl, hR, hb⟩
        · have h0 := pw_cell_below hb.out H0.out
          go_wp2_with (at_builtin; refine app_rows Kd.string (w0 := w) (.tmp 31) (.tmp 32) 23 9 (.string ⟨#[]⟩) 16 rfl rfl Try.underlying23 info_strF rfl (by decide) (by decide) (fun _ _ h => h) _ [] xs A n c rfl rfl hR (HA.out _ hb.out) hb (by simp; omega) ?_; intro v1 w2 hR2 hb2 _)
          go_roundw
          case rel => exact .inr (.inl ⟨rfl, hR2, hb2⟩)
          case measure => simp [intOf]
        · have h1 := pw_cell_below hb.out H1.out
          go_wp2_with (at_builtin; refine app_rows Kd.string (w0 := w) (.tmp 31) (.tmp 32) 23 9 (.string ⟨#[]⟩) 16 rfl rfl Try.underlying23 info_strF rfl (by decide) (by decide) (fun _ _ h => h) _ xs ys B m c2 rfl rfl hR (HB.out _ hb.out) hb (by have := HLA.out; omega) ?_; intro v1 w2 hR2 hb2 _)
          go_roundw
          case rel => exact .inr (.inr ⟨rfl, hR2, hb2⟩)
          case measure => simp [intOf]
        · go_wp2
          go_ret
          exact ⟨⟨_, rfl, R_OutCF hR.out⟩, hb.out⟩
theorem Texts_l0 (xs ys : List ByteArray) (hl : xs.length = ys.length) (hn : xs.length ≤ 1000000) (k : Nat) : ∀ m i, i + m = xs.length → PSkippedFills.demurralref04_Texts.l0 (k + m + 1) xs ys (xs.length : Int) (i : Int) = some (decide (xs.drop i = ys.drop i))
  | 0, i, h => by
    obtain rfl : i = xs.length := h
    rw [PSkippedFills.demurralref04_Texts.l0, if_neg (by omega), List.drop_length, hl, List.drop_length]; rfl
  | m + 1, i, h => by
    have w3 : wrap64 ((i : Int) + 1) = ((i + 1 : Nat) : Int) := by unfold wrap64; omega
    obtain ⟨x, hx⟩ : ∃ y, xs[i]? = some y := ⟨_, List.getElem?_eq_getElem (by omega)⟩
    obtain ⟨y, hy⟩ : ∃ y, ys[i]? = some y := ⟨_, List.getElem?_eq_getElem (by omega)⟩
    have hr1 : rdOf ByteArray.empty xs (i : Int) = x := by
      unfold rdOf
      rw [Int.toNat_natCast, List.getD_eq_getElem?_getD, hx]; rfl
    have hr2 : rdOf ByteArray.empty ys (i : Int) = y := by
      unfold rdOf
      rw [Int.toNat_natCast, List.getD_eq_getElem?_getD, hy]; rfl
    have hd1 : xs.drop i = x :: xs.drop (i + 1) := by
      rw [List.drop_eq_getElem_cons (by omega)]
      rw [List.getElem?_eq_getElem (by omega)] at hx
      rw [Option.some.inj hx]
    have hd2 : ys.drop i = y :: ys.drop (i + 1) := by
      rw [List.drop_eq_getElem_cons (by omega)]
      rw [List.getElem?_eq_getElem (by omega)] at hy
      rw [Option.some.inj hy]
    rw [PSkippedFills.demurralref04_Texts.l0, if_pos (by omega), if_pos (by omega), if_pos (by omega), if_pos (by omega), hr1, hr2, hd1, hd2]
    by_cases hxy : x = y
    · rw [if_pos (by rw [hxy]), w3, show k + (m + 1) = k + m + 1 from rfl, Texts_l0 xs ys hl hn k m (i + 1) (by omega), hxy]
      simp
    · rw [if_neg (fun h => hxy (by rw [ByteArray.toList_eq, ByteArray.toList_eq] at h; exact ByteArray.ext (Array.ext' h)))]
      simp [hxy]
theorem Texts_f (xs ys : List ByteArray) (hn : xs.length ≤ 1000000) (k : Nat) : PSkippedFills.demurralref04_Texts.f (k + xs.length + 1) xs ys = some (decide (xs = ys)) := by
  unfold PSkippedFills.demurralref04_Texts.f
  by_cases hl : xs.length = ys.length
  · rw [if_pos (by omega)]
    exact Texts_l0 xs ys hl hn k xs.length 0 (by omega)
  · rw [if_neg (by omega)]
    exact congrArg some (decide_eq_false (fun h => hl (by rw [h]))).symm
theorem Texts_any (xs ys : List ByteArray) (A : Option Addr) (c : Nat) (B : Option Addr) (d : Nat) (w : World) (hC : Kd.string.C w A xs.length xs) (hc : xs.length ≤ c) (hD : Kd.string.C w B ys.length ys) (hd : ys.length ≤ d) (hn : xs.length ≤ 1000000) :
    Calls Try.prog 21 #[.slice A xs.length c, .slice B ys.length d] w fun e w' => e = .returned (.bool (decide (xs = ys))) ∧ Below w.heap.size w w' := by
  refine (PSkippedFills.demurralref04_Texts.calls (0 + xs.length + 1) A c xs B d ys _ w hC hc hD hd (Texts_f xs ys hn 0)).mono ?_
  rintro e w' ⟨rfl, h⟩
  exact ⟨rfl, by first | exact h | exact h.below⟩
end Go.Proofs.Ytfghjahmnjghgaa

set_option linter.unusedSimpArgs false
set_option linter.unusedVariables false
/- LAYERS 8, 13: a frame is the same as itself, an empty session too, as the document says. -/
namespace Go.Proofs.Ytfghjahmnjghgaa
open Go.RowKit Go.Proofs.YtfghjahmnjghgaaW.PrintWords
attribute [local irreducible] Calls
set_option maxHeartbeats 4000000 in
set_option maxRecDepth 100000 in
theorem RSame_self (f : FrD) (A : Option Addr) (cp : Nat) (w : World) (hC : Kd.string.C w A f.keys.length f.keys) (hc : f.keys.length ≤ cp) (hn : f.keys.length ≤ 1000000) :
    Calls Try.prog 11 #[frV f (.slice A f.keys.length cp), frV f (.slice A f.keys.length cp)] w fun e w' => e = .returned (.bool true) ∧ Below w.heap.size w w' := by
  obtain ⟨kd, a, b, c, i, ba, sg, on, ra, pv, nn, bo, ks⟩ := f
  unfold frV frC
  dsimp only at *
  have HC := Lib.hid hC
  clear hC
  generalize hl : ks.length = n at *
  have HL := Lib.hid hl
  clear hl
  have HO := ((Own.start w).alloc' (.cells #[.int .i64 kd, .int .u64 (a : Int), .int .u64 (b : Int), .int .u64 (c : Int), .string i, .string ba, .int .u64 (sg : Int), .int .u64 (on : Int), .string ra, .int .u64 (pv : Int), .int .u64 (nn : Int), .string bo, .slice A n cp] 25) rfl).alloc' (.cells #[.int .i64 kd, .int .u64 (a : Int), .int .u64 (b : Int), .int .u64 (c : Int), .string i, .string ba, .int .u64 (sg : Int), .int .u64 (on : Int), .string ra, .int .u64 (pv : Int), .int .u64 (nn : Int), .string bo, .slice A n cp] 25) (by simp : _ = w.heap.size + 1)
  have c0 := HO.cell 0 rfl
  have c1 := HO.cell 1 rfl
  go_enter Try.func11, Try.ntmps11
  go_wp2_with fail
  go_loopw [98] (fun x wr => ∃ j : Nat, x = .int .i64 (j : Int) ∧ j ≤ n ∧ Aside0 (Own w [(w.heap.size + 1, .cells #[.int .i64 kd, .int .u64 (a : Int), .int .u64 (b : Int), .int .u64 (c : Int), .string i, .string ba, .int .u64 (sg : Int), .int .u64 (on : Int), .string ra, .int .u64 (pv : Int), .int .u64 (nn : Int), .string bo, .slice A n cp] 25 (0, 0)), (w.heap.size, .cells #[.int .i64 kd, .int .u64 (a : Int), .int .u64 (b : Int), .int .u64 (c : Int), .string i, .string ba, .int .u64 (sg : Int), .int .u64 (on : Int), .string ra, .int .u64 (pv : Int), .int .u64 (nn : Int), .string bo, .slice A n cp] 25 (0, 0))] wr)) (fun x _ => n - (intOf x).toNat)
  case atStart => exact ⟨0, rfl, by omega, ⟨HO⟩⟩
  case round =>
    clear c0 c1 HO
    obtain ⟨j, rfl, hj, HO⟩ := hrel
    replace HO := HO.out
    by_cases hlt : j < n
    · have j1 : (j : Int) < (n : Int) := by omega
      have j0 : (0 : Int) ≤ (j : Int) := by omega
      have HI := Lib.hid (show j + 1 ≤ n by omega)
      obtain ⟨bk, of, rfl, hcell, _⟩ := C_plF HC.out (by omega)
      obtain ⟨x, hx⟩ : ∃ x, ks[j]? = some x := ⟨_, List.getElem?_eq_getElem (by rw [HL.out]; omega)⟩
      have HX := Lib.hid (hcell j x hx)
      clear hcell hx
      go_wp2_with fail
      refine kallS [(0, 4, 2535301200456458802993406410752), (1, 2535301200456458802993406410752, 5070602400912917605986812821504), (0, 32, 10141204801825835211973625643008), (6, 15211807202738752817960438464512, 20282409603651670423947251286016), (8, 20282409603651670423947251286016, 40564819207303340847894502572032), (0, 8, 81129638414606681695789005144064), (32, 81129638414606681695789005144064, 162259276829213363391578010288128), (0, 32, 324518553658426726783156020576256), (192, 486777830487640090174734030864384, 649037107316853453566312041152512), (256, 649037107316853453566312041152512, 1298074214633706907132624082305024), (528, 1338639033841010247980518584877056, 2596148429267413814265248164610048)] [1, 5, 37, 165, 167, 175, 191, 255, 511, 1023, 2047] [(0, true, some 101), (2, true, some 103), (5, true, some 106), (7, true, some 108), (1, true, some 102), (3, true, some 104), (4, true, some 105), (6, true, some 107), (8, true, some 109), (9, true, some 110), (10, true, some 111)] (by kernel_rfl) rfl (by kernel_rfl) (by kernel_rfl) (by kernel_rfl) rfl (fun _ _ _ _ _ h => h) ?_
      iterate 4 (refine sP (v := ?_) (a' := ?_) rfl rfl (by rfl) ?_ ?_ ?_; rotate_left 2; (· intro w'; go_simp; with_reducible rfl); (· simp only [Act.put, List.setIfInBounds_toArray, List.set_cons_zero, List.set_cons_succ, kw64, kw32]; rfl))
      (refine sB (v := ?_) (a' := ?_) rfl rfl (by rfl) ?_ ?_ ?_; rotate_left 2; (· intro w1 hg; have c9 := (HO.up hg).cell 1 rfl; have c8 := (HO.up hg).cell 0 rfl; have e1 := pw_cell_below (HO.up hg).below HX.out; go_simp; with_reducible rfl); (· simp only [Act.put, List.setIfInBounds_toArray, List.set_cons_zero, List.set_cons_succ, kw64, kw32]; rfl))
      (refine sP (v := ?_) (a' := ?_) rfl rfl (by rfl) ?_ ?_ ?_; rotate_left 2; (· intro w'; go_simp; with_reducible rfl); (· simp only [Act.put, List.setIfInBounds_toArray, List.set_cons_zero, List.set_cons_succ, kw64, kw32]; rfl))
      iterate 2 (refine sB (v := ?_) (a' := ?_) rfl rfl (by rfl) ?_ ?_ ?_; rotate_left 2; (· intro w1 hg; have c9 := (HO.up hg).cell 1 rfl; have c8 := (HO.up hg).cell 0 rfl; have e1 := pw_cell_below (HO.up hg).below HX.out; go_simp; with_reducible rfl); (· simp only [Act.put, List.setIfInBounds_toArray, List.set_cons_zero, List.set_cons_succ, kw64, kw32]; rfl))
      (refine sP (v := ?_) (a' := ?_) rfl rfl (by rfl) ?_ ?_ ?_; rotate_left 2; (· intro w'; go_simp; with_reducible rfl); (· simp only [Act.put, List.setIfInBounds_toArray, List.set_cons_zero, List.set_cons_succ, kw64, kw32]; rfl))
      (refine sB (v := ?_) (a' := ?_) rfl rfl (by rfl) ?_ ?_ ?_; rotate_left 2; (· intro w1 hg; have c9 := (HO.up hg).cell 1 rfl; have c8 := (HO.up hg).cell 0 rfl; have e1 := pw_cell_below (HO.up hg).below HX.out; go_simp; with_reducible rfl); (· simp only [Act.put, List.setIfInBounds_toArray, List.set_cons_zero, List.set_cons_succ, kw64, kw32]; rfl))
      (refine sP (v := ?_) (a' := ?_) rfl rfl (by rfl) ?_ ?_ ?_; rotate_left 2; (· intro w'; go_simp; with_reducible rfl); (· simp only [Act.put, List.setIfInBounds_toArray, List.set_cons_zero, List.set_cons_succ, kw64, kw32]; rfl))
      intro w1 hg
      replace HO := HO.up hg
      clear hg
      go_wp2
      go_roundw
      case rel => exact ⟨j + 1, by go_num, HI.out, ⟨HO⟩⟩
      case measure => simp [intOf]; omega
    · have hge : ¬ ((j : Int) < (n : Int)) := by omega
      go_wp2
      go_ret
      exact ⟨rfl, HO.below⟩
set_option maxHeartbeats 4000000 in
set_option maxRecDepth 100000 in
theorem Same13_zeroR (w : World) :
    Calls Try.prog 20 #[.agg #[.string ⟨#[]⟩, .string ⟨#[]⟩, .string ⟨#[]⟩, .string ⟨#[]⟩, .string ⟨#[]⟩, .int .u64 0, .int .u64 0, .int .u64 0, .slice none 0 0, .slice none 0 0], .agg #[.string ⟨#[]⟩, .string ⟨#[]⟩, .string ⟨#[]⟩, .string ⟨#[]⟩, .string ⟨#[]⟩, .int .u64 0, .int .u64 0, .int .u64 0, .slice none 0 0, .slice none 0 0]] w fun e w' => e = .returned (.bool true) ∧ Below w.heap.size w w' := by
  have HT := Lib.hid (fun w1 => show Calls Try.prog 21 #[.slice none 0 0, .slice none 0 0] w1 (fun e w' => e = .returned (.bool true) ∧ Below w1.heap.size w1 w') from Texts_any [] [] none 0 none 0 w1 (C_zero _ _ _) (Nat.le_refl 0) (C_zero _ _ _) (Nat.le_refl 0) (by decide))
  have HK := Lib.hid (fun w1 => show Calls Try.prog 38 #[.slice none 0 0, .slice none 0 0] w1 (fun e w' => e = .returned (.bool true) ∧ Below w1.heap.size w1 w') from Sk.Same12_any none 0 0 [] none 0 0 [] w1 (C_zero _ _ _) (Nat.le_refl 0) (C_zero _ _ _) (Nat.le_refl 0) (by decide))
  have HO := ((Own.start w).alloc' (.cells #[.string ⟨#[]⟩, .string ⟨#[]⟩, .string ⟨#[]⟩, .string ⟨#[]⟩, .string ⟨#[]⟩, .int .u64 0, .int .u64 0, .int .u64 0, .slice none 0 0, .slice none 0 0] 36) rfl).alloc' (.cells #[.string ⟨#[]⟩, .string ⟨#[]⟩, .string ⟨#[]⟩, .string ⟨#[]⟩, .string ⟨#[]⟩, .int .u64 0, .int .u64 0, .int .u64 0, .slice none 0 0, .slice none 0 0] 36) (by simp : _ = w.heap.size + 1)
  have c0 := HO.cell 0 rfl
  have c1 := HO.cell 1 rfl
  go_enter Try.func20, Try.ntmps20
  go_wp2_with fail
  refine (HK.out _).mono ?_
  rintro e w1 ⟨rfl, hb⟩
  replace HO := HO.up hb
  clear hb c0 c1
  have c0 := HO.cell 0 rfl
  have c1 := HO.cell 1 rfl
  go_wp2_with fail
  refine (HT.out _).mono ?_
  rintro e w1 ⟨rfl, hb⟩
  replace HO := HO.up hb
  go_wp2
  go_ret
  exact ⟨rfl, HO.below⟩
end Go.Proofs.Ytfghjahmnjghgaa

set_option linter.unusedSimpArgs false
set_option linter.unusedVariables false
/- LAYER 13: a session as an argument, opened. -/
namespace Go.Proofs.Ytfghjahmnjghgaa
open Go.RowKit Go.Proofs.YtfghjahmnjghgaaW.PrintWords Go.ChangeShapes Go.WideShapes Go.Deep
/-- a session as it lies: its rows -/
structure SesX where
  s : SesD
  K : Option Addr
  kl : Nat
  kc : Nat
  U : Option Addr
  ul : Nat
  uc : Nat
def encSes (x : SesX) : List Value := (sesC x.s (.slice x.K x.kl x.kc) (.slice x.U x.ul x.uc)).toList
def okSes (W : World) (x : SesX) : Prop := x.kl ≤ x.kc ∧ Kd.C Sk.kK W x.K x.kl x.s.kept ∧ x.ul ≤ x.uc ∧ Kd.string.C W x.U x.ul x.s.used
theorem celUS : Try.prog.cellsOf 22 = 1 := by kernel_rfl
theorem celSS : Try.prog.cellsOf 9 = 1 := by kernel_rfl
theorem celLS : Try.prog.cellsOf 23 = 1 := by kernel_rfl
theorem celKS : Try.prog.cellsOf 79 = 3 := by kernel_rfl
theorem celMS : Try.prog.cellsOf 34 = 1 := by kernel_rfl
theorem celTS : Try.prog.cellsOf 36 = 10 := by kernel_rfl
theorem cells_strS : Try.prog.cellsOf 9 = Kd.string.sz := by rw [celSS]; rfl
section
variable {H : Type} {enc : TypeId × Value → H} {W : World}
theorem open_strS (n : Nat) (cs : List Value) (y : DataW H × List MemPlace) (h : DataW.trod enc Try.prog W 0 (fun _ => true) true n 9 cs = some y) : ∃ x : ByteArray, Kd.string.K W x cs ∧ True := by
  obtain ⟨s, e, _, _⟩ := DataW.trod_string Try.underlying9 h
  exact ⟨s, e, trivial⟩
set_option maxRecDepth 100000 in
theorem open_keptS (n : Nat) (cs : List Value) (y : DataW H × List MemPlace) (h : DataW.trod enc Try.prog W 0 (fun _ => true) true n 79 cs = some y) : ∃ x : Sk.KeptD, Sk.kK.K W x cs ∧ True := by
  obtain ⟨y0, y1, y2, m, rfl, hl, h0, h1, h2⟩ := trod_struct3 Try.underlying79 h
  rw [celKS] at hl
  match cs, hl with
  | [c0, c1, c2], _ =>
    obtain ⟨b, e0, _⟩ := DataW.trod_string Try.underlying9 h0
    obtain ⟨k, e1, _, wk⟩ := DataW.trod_int Try.underlying22 h1
    obtain ⟨s, e2, _, hs⟩ := DataW.trod_string Try.underlying9 h2
    have d0 : c0 = .string b := by simpa [celSS] using e0
    have d1 : c1 = .int .u64 k := by simpa [celUS, celSS] using e1
    have d2 : c2 = .string s := by simpa [celSS, celUS] using e2
    have hk := u64_bounds wk
    refine ⟨⟨b, k.toNat, s⟩, ?_, trivial⟩
    rw [d0, d1, d2]
    show [Value.string b, .int .u64 k, .string s] = [Value.string b, .int .u64 (k.toNat : Int), .string s]
    rw [Int.toNat_of_nonneg hk.1]
theorem open_rowS {α : Type} [Inhabited α] (k : Kd α) {t e : TypeId} (ht : Try.prog.underlying t = some (.slice e)) (hc : Try.prog.cellsOf t = 1) (hsz : Try.prog.cellsOf e = k.sz)
    (hel : ∀ n cs y, DataW.trod enc Try.prog W 0 (fun _ => true) true n e cs = some y → ∃ x, k.K W x cs ∧ True) {n : Nat} {cs : List Value} {y : DataW H × List MemPlace} (h : DataW.trod enc Try.prog W 0 (fun _ => true) true n t cs = some y) :
    ∃ (A : Option Addr) (l c : Nat) (xs : List α), cs = [.slice A l c] ∧ l ≤ c ∧ k.C W A l xs := by
  have hs : ∃ A l c, cs = [.slice A l c] := by
    rcases open_slice ht h with ⟨rfl, _⟩ | ⟨a, l, c, m, q, V, D, hcs, _⟩
    · exact ⟨_, _, _, rfl⟩
    · exact ⟨_, _, _, hcs⟩
  obtain ⟨A, l, c, rfl⟩ := hs
  obtain ⟨d, p⟩ := y
  obtain ⟨xs, h1, h2, _, _⟩ := open_C (P := Try.prog) k (fun _ => True) ht hsz hel (a := A) (len := l) (cap := c) (d := d) (p := p) ⟨n, h⟩
  exact ⟨A, l, c, xs, rfl, h2, h1⟩
set_option maxRecDepth 100000 in
set_option maxHeartbeats 1000000 in
theorem open_ses (n : Nat) (cs : List Value) (y : DataW H × List MemPlace) (h : DataW.trod enc Try.prog W 0 (fun _ => true) true n 36 cs = some y) :
    ∃ x : SesX, cs = encSes x ∧ okSes W x := by
  obtain ⟨xs, n, _, rfl, hl, hlen, hf⟩ := DataW.trod_struct Try.underlying36 h
  rw [celTS] at hl
  match cs, hl, xs, hlen with
  | [c0, c1, c2, c3, c4, c5, c6, c7, c8, c9], _, [y0, y1, y2, y3, y4, y5, y6, y7, y8, y9], _ =>
    have h0 := (hf 0 _ rfl).trans (show _ = some y0 from rfl)
    have h1 := (hf 1 _ rfl).trans (show _ = some y1 from rfl)
    have h2 := (hf 2 _ rfl).trans (show _ = some y2 from rfl)
    have h3 := (hf 3 _ rfl).trans (show _ = some y3 from rfl)
    have h4 := (hf 4 _ rfl).trans (show _ = some y4 from rfl)
    have h5 := (hf 5 _ rfl).trans (show _ = some y5 from rfl)
    have h6 := (hf 6 _ rfl).trans (show _ = some y6 from rfl)
    have h7 := (hf 7 _ rfl).trans (show _ = some y7 from rfl)
    have h8 := (hf 8 _ rfl).trans (show _ = some y8 from rfl)
    have h9 := (hf 9 _ rfl).trans (show _ = some y9 from rfl)
    obtain ⟨v0, e0, _, _⟩ := DataW.trod_string Try.underlying9 h0
    obtain ⟨v1, e1, _, _⟩ := DataW.trod_string Try.underlying9 h1
    obtain ⟨v2, e2, _, _⟩ := DataW.trod_string Try.underlying9 h2
    obtain ⟨v3, e3, _, _⟩ := DataW.trod_string Try.underlying9 h3
    obtain ⟨v4, e4, _, _⟩ := DataW.trod_string Try.underlying9 h4
    obtain ⟨v5, e5, _, w5⟩ := DataW.trod_int Try.underlying22 h5
    obtain ⟨v6, e6, _, w6⟩ := DataW.trod_int Try.underlying22 h6
    obtain ⟨v7, e7, _, w7⟩ := DataW.trod_int Try.underlying22 h7
    obtain ⟨A, l, cp, ks, e8, hlc, hC⟩ := open_rowS Sk.kK Try.underlying34 celMS (by rw [celKS]; rfl) open_keptS h8
    obtain ⟨B, m, cq, us, e9, hlq, hD⟩ := open_rowS Kd.string Try.underlying23 celLS cells_strS open_strS h9
    have d0 : c0 = .string v0 := by simpa [celUS, celSS, celLS, celMS] using e0
    have d1 : c1 = .string v1 := by simpa [celUS, celSS, celLS, celMS] using e1
    have d2 : c2 = .string v2 := by simpa [celUS, celSS, celLS, celMS] using e2
    have d3 : c3 = .string v3 := by simpa [celUS, celSS, celLS, celMS] using e3
    have d4 : c4 = .string v4 := by simpa [celUS, celSS, celLS, celMS] using e4
    have d5 : c5 = .int .u64 v5 := by simpa [celUS, celSS, celLS, celMS] using e5
    have u5 := u64_bounds w5
    have d6 : c6 = .int .u64 v6 := by simpa [celUS, celSS, celLS, celMS] using e6
    have u6 := u64_bounds w6
    have d7 : c7 = .int .u64 v7 := by simpa [celUS, celSS, celLS, celMS] using e7
    have u7 := u64_bounds w7
    have d8 : c8 = .slice A l cp := by simpa [celUS, celSS, celLS, celMS] using e8
    have d9 : c9 = .slice B m cq := by simpa [celUS, celSS, celLS, celMS] using e9
    refine ⟨⟨⟨v0, v1, v2, v3, v4, v5.toNat, v6.toNat, v7.toNat, ks, us⟩, A, l, cp, B, m, cq⟩, ?_, hlc, hC, hlq, hD⟩
    rw [d0, d1, d2, d3, d4, d5, d6, d7, d8, d9]
    unfold encSes sesC
    simp only [Int.toNat_of_nonneg u5.1, Int.toNat_of_nonneg u6.1, Int.toNat_of_nonneg u7.1]
end
end Go.Proofs.Ytfghjahmnjghgaa

set_option linter.unusedSimpArgs false
set_option linter.unusedVariables false
/- LAYER 14: reveal.Take. -/
namespace Go.Proofs.Ytfghjahmnjghgaa
open Go.RowKit Go.Proofs.YtfghjahmnjghgaaW.PrintWords
theorem sesC_one (a b c d e : ByteArray) (x y z : Nat) (K : Option Addr) (kn kc : Nat) (U : Option Addr) (un uc : Nat) : (#[.string a, .string b, .string c, .string d, .string e, .int .u64 (x : Int), .int .u64 (y : Int), .int .u64 (z : Int), .slice K kn kc, .slice U un uc] : Array Value).all (·.oneCell') = true := by
  rw [Array.all_eq_true_iff_forall_mem]
  intro v hv
  simp only [List.mem_toArray, List.mem_cons, List.not_mem_nil, or_false] at hv
  rcases hv with rfl | rfl | rfl | rfl | rfl | rfl | rfl | rfl | rfl | rfl <;> rfl
attribute [local irreducible] Calls
set_option maxHeartbeats 4000000 in
set_option maxRecDepth 100000 in
theorem Take_arg (s : SesD) (K : Option Addr) (kc : Nat) (U : Option Addr) (uc : Nat) (w : World) (hK : Kd.C Sk.kK w K s.kept.length s.kept) (hkc : s.kept.length ≤ kc) (hU : Kd.string.C w U s.used.length s.used) (huc : s.used.length ≤ uc) (hun : s.used.length ≤ 1000000) (mo : Int) (hr : rightS s = false) :
    Calls Try.prog 16 #[sesV s (.slice K s.kept.length kc) (.slice U s.used.length uc), .int .i64 mo] w fun e w' => e = .returned (.tuple #[.agg #[.string ⟨#[]⟩, .string ⟨#[]⟩, .string ⟨#[]⟩, .string ⟨#[]⟩, .string ⟨#[]⟩, .int .u64 0, .int .u64 0, .int .u64 0, .slice none 0 0, .slice none 0 0], .slice none 0 0, .int .i64 1]) ∧ Below w.heap.size w w' := by
  have HR := Lib.hid (fun w1 (hg : Below w.heap.size w w1) => SRight_any s K kc U uc w1 (Kd.C_below hK hg) hkc (Kd.C_below hU hg) huc hun)
  rw [hr] at HR
  clear hK hkc hU huc hun
  obtain ⟨ow, pe, ro, se, re, st, gt, pv, kept, used⟩ := s
  unfold sesV sesC
  unfold sesV sesC at HR
  dsimp only at *
  generalize used.length = un at *
  generalize kept.length = kn at *
  clear hr
  have HO := ((Own.start w).alloc' (.cells #[.string ow, .string pe, .string ro, .string se, .string re, .int .u64 (st : Int), .int .u64 (gt : Int), .int .u64 (pv : Int), .slice K kn kc, .slice U un uc] 36) rfl).alloc' (.cells #[.string ⟨#[]⟩, .string ⟨#[]⟩, .string ⟨#[]⟩, .string ⟨#[]⟩, .string ⟨#[]⟩, .int .u64 0, .int .u64 0, .int .u64 0, .slice none 0 0, .slice none 0 0] 36) (by simp : _ = w.heap.size + 1)
  go_enter Try.func16, Try.ntmps16
  go_wp2_with (refine wpList_load_row rfl 36 (.tmp 10) rfl w.heap.size (by rfl) _ #[.string ow, .string pe, .string ro, .string se, .string re, .int .u64 (st : Int), .int .u64 (gt : Int), .int .u64 (pv : Int), .slice K kn kc, .slice U un uc] _ _ (HO.blk 1 rfl) Try.underlying36 rfl (by kernel_rfl) ?_)
  refine (HR.out _ HO.below).mono ?_
  rintro e w1 ⟨rfl, hb⟩
  replace HO := HO.up hb
  clear hb
  go_wp2_with (refine wpList_store_row rfl 36 (.tmp 4) (.tmp 13) rfl (w.heap.size + 1) #[.string ⟨#[]⟩, .string ⟨#[]⟩, .string ⟨#[]⟩, .string ⟨#[]⟩, .string ⟨#[]⟩, .int .u64 0, .int .u64 0, .int .u64 0, .slice none 0 0, .slice none 0 0] (by rfl) (by rfl) _ _ (HO.blk 0 rfl) (by kernel_rfl) rfl (sesC_one _ _ _ _ _ 0 0 0 _ _ _ _ _ _) ?_)
  replace HO := HO.setRow 0 rfl #[.string ⟨#[]⟩, .string ⟨#[]⟩, .string ⟨#[]⟩, .string ⟨#[]⟩, .string ⟨#[]⟩, .int .u64 0, .int .u64 0, .int .u64 0, .slice none 0 0, .slice none 0 0] (L' := [(w.heap.size + 1, .cells #[.string ⟨#[]⟩, .string ⟨#[]⟩, .string ⟨#[]⟩, .string ⟨#[]⟩, .string ⟨#[]⟩, .int .u64 0, .int .u64 0, .int .u64 0, .slice none 0 0, .slice none 0 0] 36 (0, 0)), (w.heap.size, .cells #[.string ow, .string pe, .string ro, .string se, .string re, .int .u64 (st : Int), .int .u64 (gt : Int), .int .u64 (pv : Int), .slice K kn kc, .slice U un uc] 36 (0, 0))]) rfl
  have cR := HO.cell 0 rfl
  exact bodyPost_ret (v := .tuple #[.agg #[.string ⟨#[]⟩, .string ⟨#[]⟩, .string ⟨#[]⟩, .string ⟨#[]⟩, .string ⟨#[]⟩, .int .u64 0, .int .u64 0, .int .u64 0, .slice none 0 0, .slice none 0 0], .slice none 0 0, .int .i64 1]) (by simp [results, Try.results16, go_sem, cR]) rfl ⟨rfl, HO.below⟩
set_option maxHeartbeats 4000000 in
set_option maxRecDepth 100000 in
theorem Take_size (s : SesD) (K : Option Addr) (kc : Nat) (U : Option Addr) (uc : Nat) (w : World) (hK : Kd.C Sk.kK w K s.kept.length s.kept) (hkc : s.kept.length ≤ kc) (hU : Kd.string.C w U s.used.length s.used) (huc : s.used.length ≤ uc) (hun : s.used.length ≤ 1000000) (mo : Int) (hr : rightS s = true) (hm : mo < 0 ∨ 32 < mo) :
    Calls Try.prog 16 #[sesV s (.slice K s.kept.length kc) (.slice U s.used.length uc), .int .i64 mo] w fun e w' => e = .returned (.tuple #[.agg #[.string ⟨#[]⟩, .string ⟨#[]⟩, .string ⟨#[]⟩, .string ⟨#[]⟩, .string ⟨#[]⟩, .int .u64 0, .int .u64 0, .int .u64 0, .slice none 0 0, .slice none 0 0], .slice none 0 0, .int .i64 2]) ∧ Below w.heap.size w w' := by
  have HR := Lib.hid (fun w1 (hg : Below w.heap.size w w1) => SRight_any s K kc U uc w1 (Kd.C_below hK hg) hkc (Kd.C_below hU hg) huc hun)
  rw [hr] at HR
  clear hK hkc hU huc hun
  obtain ⟨ow, pe, ro, se, re, st, gt, pv, kept, used⟩ := s
  unfold sesV sesC
  unfold sesV sesC at HR
  dsimp only at *
  generalize used.length = un at *
  generalize kept.length = kn at *
  clear hr
  have HO := ((Own.start w).alloc' (.cells #[.string ow, .string pe, .string ro, .string se, .string re, .int .u64 (st : Int), .int .u64 (gt : Int), .int .u64 (pv : Int), .slice K kn kc, .slice U un uc] 36) rfl).alloc' (.cells #[.string ⟨#[]⟩, .string ⟨#[]⟩, .string ⟨#[]⟩, .string ⟨#[]⟩, .string ⟨#[]⟩, .int .u64 0, .int .u64 0, .int .u64 0, .slice none 0 0, .slice none 0 0] 36) (by simp : _ = w.heap.size + 1)
  go_enter Try.func16, Try.ntmps16
  go_wp2_with (refine wpList_load_row rfl 36 (.tmp 10) rfl w.heap.size (by rfl) _ #[.string ow, .string pe, .string ro, .string se, .string re, .int .u64 (st : Int), .int .u64 (gt : Int), .int .u64 (pv : Int), .slice K kn kc, .slice U un uc] _ _ (HO.blk 1 rfl) Try.underlying36 rfl (by kernel_rfl) ?_)
  refine (HR.out _ HO.below).mono ?_
  rintro e w1 ⟨rfl, hb⟩
  replace HO := HO.up hb
  clear hb
  by_cases h1 : mo < 0
  · clear hm
    go_wp2_with (refine wpList_store_row rfl 36 (.tmp 4) (.tmp 21) rfl (w.heap.size + 1) #[.string ⟨#[]⟩, .string ⟨#[]⟩, .string ⟨#[]⟩, .string ⟨#[]⟩, .string ⟨#[]⟩, .int .u64 0, .int .u64 0, .int .u64 0, .slice none 0 0, .slice none 0 0] (by rfl) (by rfl) _ _ (HO.blk 0 rfl) (by kernel_rfl) rfl (sesC_one _ _ _ _ _ 0 0 0 _ _ _ _ _ _) ?_)
    replace HO := HO.setRow 0 rfl #[.string ⟨#[]⟩, .string ⟨#[]⟩, .string ⟨#[]⟩, .string ⟨#[]⟩, .string ⟨#[]⟩, .int .u64 0, .int .u64 0, .int .u64 0, .slice none 0 0, .slice none 0 0] (L' := [(w.heap.size + 1, .cells #[.string ⟨#[]⟩, .string ⟨#[]⟩, .string ⟨#[]⟩, .string ⟨#[]⟩, .string ⟨#[]⟩, .int .u64 0, .int .u64 0, .int .u64 0, .slice none 0 0, .slice none 0 0] 36 (0, 0)), (w.heap.size, .cells #[.string ow, .string pe, .string ro, .string se, .string re, .int .u64 (st : Int), .int .u64 (gt : Int), .int .u64 (pv : Int), .slice K kn kc, .slice U un uc] 36 (0, 0))]) rfl
    have cR := HO.cell 0 rfl
    exact bodyPost_ret (v := .tuple #[.agg #[.string ⟨#[]⟩, .string ⟨#[]⟩, .string ⟨#[]⟩, .string ⟨#[]⟩, .string ⟨#[]⟩, .int .u64 0, .int .u64 0, .int .u64 0, .slice none 0 0, .slice none 0 0], .slice none 0 0, .int .i64 2]) (by simp [results, Try.results16, go_sem, cR]) rfl ⟨rfl, HO.below⟩
  · have h2 : mo > 32 := by omega
    clear hm
    go_wp2_with (refine wpList_store_row rfl 36 (.tmp 4) (.tmp 21) rfl (w.heap.size + 1) #[.string ⟨#[]⟩, .string ⟨#[]⟩, .string ⟨#[]⟩, .string ⟨#[]⟩, .string ⟨#[]⟩, .int .u64 0, .int .u64 0, .int .u64 0, .slice none 0 0, .slice none 0 0] (by rfl) (by rfl) _ _ (HO.blk 0 rfl) (by kernel_rfl) rfl (sesC_one _ _ _ _ _ 0 0 0 _ _ _ _ _ _) ?_)
    replace HO := HO.setRow 0 rfl #[.string ⟨#[]⟩, .string ⟨#[]⟩, .string ⟨#[]⟩, .string ⟨#[]⟩, .string ⟨#[]⟩, .int .u64 0, .int .u64 0, .int .u64 0, .slice none 0 0, .slice none 0 0] (L' := [(w.heap.size + 1, .cells #[.string ⟨#[]⟩, .string ⟨#[]⟩, .string ⟨#[]⟩, .string ⟨#[]⟩, .string ⟨#[]⟩, .int .u64 0, .int .u64 0, .int .u64 0, .slice none 0 0, .slice none 0 0] 36 (0, 0)), (w.heap.size, .cells #[.string ow, .string pe, .string ro, .string se, .string re, .int .u64 (st : Int), .int .u64 (gt : Int), .int .u64 (pv : Int), .slice K kn kc, .slice U un uc] 36 (0, 0))]) rfl
    have cR := HO.cell 0 rfl
    exact bodyPost_ret (v := .tuple #[.agg #[.string ⟨#[]⟩, .string ⟨#[]⟩, .string ⟨#[]⟩, .string ⟨#[]⟩, .string ⟨#[]⟩, .int .u64 0, .int .u64 0, .int .u64 0, .slice none 0 0, .slice none 0 0], .slice none 0 0, .int .i64 2]) (by simp [results, Try.results16, go_sem, cR]) rfl ⟨rfl, HO.below⟩
/-- the address of what is left -/
def restA (U : Option Addr) (c n : Nat) : Option Addr := if c = n then U else U.map (·.add n)
theorem C_rest {w : World} {U : Option Addr} {un uc n : Nat} {xs : List ByteArray} (h : Kd.string.C w U un xs) (hn : n ≤ un) (hc : un ≤ uc) : Kd.string.C w (restA U uc n) (un - n) (xs.drop n) := by
  obtain rfl : xs.length = un := h.1
  have := Kd.C_drop (k := Kd.string) (c := uc) h hn hc
  rw [List.length_drop] at this
  unfold restA
  rw [show (fun x : Addr => x.add n) = (fun x : Addr => x.add (n * Kd.string.sz)) from by funext x; rw [show Kd.string.sz = 1 from rfl, Nat.mul_one]]
  exact this
set_option maxHeartbeats 4000000 in
set_option maxRecDepth 100000 in
theorem Take_yes (s : SesD) (K : Option Addr) (kc : Nat) (U : Option Addr) (uc : Nat) (w : World) (hK : Kd.C Sk.kK w K s.kept.length s.kept) (hkc : s.kept.length ≤ kc) (hU : Kd.string.C w U s.used.length s.used) (huc : s.used.length ≤ uc) (hun : s.used.length ≤ 1000000) (mo : Nat) (hr : rightS s = true) (hm : mo ≤ 32) :
    Calls Try.prog 16 #[sesV s (.slice K s.kept.length kc) (.slice U s.used.length uc), .int .i64 (mo : Int)] w fun e w' => (∃ v, e = .returned (.tuple #[sesV s (.slice K s.kept.length kc) (.slice (restA U uc (min mo s.used.length)) (s.used.length - min mo s.used.length : Nat) (uc - min mo s.used.length : Nat)), v, .int .i64 0]) ∧ Out Kd.string w' v (s.used.take (min mo s.used.length))) ∧ Below w.heap.size w w' := by
  have HR := Lib.hid (fun w1 (hg : Below w.heap.size w w1) => SRight_any s K kc U uc w1 (Kd.C_below hK hg) hkc (Kd.C_below hU hg) huc hun)
  rw [hr] at HR
  have HCl := Lib.hid (fun w1 (hg : Below w.heap.size w w1) => Clone_R U (min mo s.used.length) uc (s.used.take (min mo s.used.length)) w1 (Kd.C_below (C_take hU _ (Nat.min_le_right _ _)) hg) (by omega))
  have hle : min mo s.used.length ≤ s.used.length := Nat.min_le_right _ _
  have hlc : s.used.length ≤ uc := huc
  have hmn : min (mo : Int) (s.used.length : Int) = ((min mo s.used.length : Nat) : Int) := by omega
  clear hK hkc hU huc hun
  obtain ⟨ow, pe, ro, se, re, st, gt, pv, kept, used⟩ := s
  unfold sesV sesC
  unfold sesV sesC at HR
  dsimp only at *
  generalize used.length = un at *
  generalize kept.length = kn at *
  clear hr
  have i0 : (0 : Int) ≤ (mo : Int) := by omega
  have i1 : ¬ ((mo : Int) < 0) := by omega
  have i2 : ¬ ((mo : Int) > 32) := by omega
  have i5 : (un : Int) ≤ (uc : Int) := by omega
  have HO := ((Own.start w).alloc' (.cells #[.string ow, .string pe, .string ro, .string se, .string re, .int .u64 (st : Int), .int .u64 (gt : Int), .int .u64 (pv : Int), .slice K kn kc, .slice U un uc] 36) rfl).alloc' (.cells #[.string ⟨#[]⟩, .string ⟨#[]⟩, .string ⟨#[]⟩, .string ⟨#[]⟩, .string ⟨#[]⟩, .int .u64 0, .int .u64 0, .int .u64 0, .slice none 0 0, .slice none 0 0] 36) (by simp : _ = w.heap.size + 1)
  by_cases h : un < mo
  · generalize hq : min mo un = q at *
    obtain rfl : q = un := by omega
    clear hle hmn hq
    by_cases hq : uc = q
    · subst hq
      go_enter Try.func16, Try.ntmps16
      go_wp2_with (refine wpList_load_row rfl 36 (.tmp 10) rfl w.heap.size (by rfl) _ #[.string ow, .string pe, .string ro, .string se, .string re, .int .u64 (st : Int), .int .u64 (gt : Int), .int .u64 (pv : Int), .slice K kn kc, .slice U un uc] _ _ (HO.blk 1 rfl) Try.underlying36 rfl (by kernel_rfl) ?_)
      refine (HR.out _ HO.below).mono ?_
      rintro e w1 ⟨rfl, hb⟩
      replace HO := HO.up hb
      clear hb
      have c1 := HO.cell 1 rfl
      have f1 := HO.frozen 1 rfl
      go_wp2_with fail
      have HZ := Lib.hid (HO.lt 0 rfl)
      refine (HCl.out _ HO.below).mono ?_
      rintro e w2 ⟨⟨v, rfl, hv⟩, hb⟩
      replace HO := HO.up hb
      have HV := Lib.hid (OutN_R hv)
      clear hb c1 f1 hv
      have c1 := HO.cell 1 rfl
      have f1 := HO.frozen 1 rfl
      replace HO := HO.set' 1 rfl 9 ((.slice U 0 0)) (L' := [(w.heap.size + 1, .cells #[.string ⟨#[]⟩, .string ⟨#[]⟩, .string ⟨#[]⟩, .string ⟨#[]⟩, .string ⟨#[]⟩, .int .u64 0, .int .u64 0, .int .u64 0, .slice none 0 0, .slice none 0 0] 36 (0, 0)), (w.heap.size, .cells #[.string ow, .string pe, .string ro, .string se, .string re, .int .u64 (st : Int), .int .u64 (gt : Int), .int .u64 (pv : Int), .slice K kn kc, (.slice U 0 0)] 36 (0, 0))]) rfl
      go_wp2_with (first | (refine wpList_load_row rfl 36 (.tmp 2) rfl w.heap.size (by rfl) _ #[.string ow, .string pe, .string ro, .string se, .string re, .int .u64 (st : Int), .int .u64 (gt : Int), .int .u64 (pv : Int), .slice K kn kc, (.slice U 0 0)] _ _ (HO.blk 1 rfl) Try.underlying36 rfl (by kernel_rfl) ?_) | (refine wpList_store_row rfl 36 (.tmp 4) (.tmp 37) rfl (w.heap.size + 1) #[.string ow, .string pe, .string ro, .string se, .string re, .int .u64 (st : Int), .int .u64 (gt : Int), .int .u64 (pv : Int), .slice K kn kc, (.slice U 0 0)] (by rfl) (by rfl) _ _ (HO.blk 0 rfl) (by kernel_rfl) rfl (sesC_one _ _ _ _ _ _ _ _ _ _ _ _ _ _) ?_))
      replace HO := HO.setRow 0 rfl #[.string ow, .string pe, .string ro, .string se, .string re, .int .u64 (st : Int), .int .u64 (gt : Int), .int .u64 (pv : Int), .slice K kn kc, (.slice U 0 0)] (L' := [(w.heap.size + 1, .cells #[.string ow, .string pe, .string ro, .string se, .string re, .int .u64 (st : Int), .int .u64 (gt : Int), .int .u64 (pv : Int), .slice K kn kc, (.slice U 0 0)] 36 (0, 0)), (w.heap.size, .cells #[.string ow, .string pe, .string ro, .string se, .string re, .int .u64 (st : Int), .int .u64 (gt : Int), .int .u64 (pv : Int), .slice K kn kc, (.slice U 0 0)] 36 (0, 0))]) rfl
      have cR := HO.cell 0 rfl
      exact bodyPost_ret (v := .tuple #[.agg #[.string ow, .string pe, .string ro, .string se, .string re, .int .u64 (st : Int), .int .u64 (gt : Int), .int .u64 (pv : Int), .slice K kn kc, (.slice U 0 0)], v, .int .i64 0]) (by simp [results, Try.results16, go_sem, cR]) rfl ⟨⟨v, by unfold restA; rw [if_pos rfl, Nat.sub_self], (HV.out.far (fun i hi => (setRow_other _ _ _ _ (by have := HZ.out; omega)).trans (Below.heap_setCell _ _ _ _ (by have := HZ.out; show i ≠ w.heap.size; omega)))).out⟩, HO.below⟩

    · have hz : ¬ ((uc : Int) - (q : Int) = 0) := by omega
      rcases U with _ | ad
      · skip
        go_enter Try.func16, Try.ntmps16
        go_wp2_with (refine wpList_load_row rfl 36 (.tmp 10) rfl w.heap.size (by rfl) _ #[.string ow, .string pe, .string ro, .string se, .string re, .int .u64 (st : Int), .int .u64 (gt : Int), .int .u64 (pv : Int), .slice K kn kc, .slice U un uc] _ _ (HO.blk 1 rfl) Try.underlying36 rfl (by kernel_rfl) ?_)
        refine (HR.out _ HO.below).mono ?_
        rintro e w1 ⟨rfl, hb⟩
        replace HO := HO.up hb
        clear hb
        have c1 := HO.cell 1 rfl
        have f1 := HO.frozen 1 rfl
        go_wp2_with fail
        have HZ := Lib.hid (HO.lt 0 rfl)
        refine (HCl.out _ HO.below).mono ?_
        rintro e w2 ⟨⟨v, rfl, hv⟩, hb⟩
        replace HO := HO.up hb
        have HV := Lib.hid (OutN_R hv)
        clear hb c1 f1 hv
        have c1 := HO.cell 1 rfl
        have f1 := HO.frozen 1 rfl
        replace HO := HO.set' 1 rfl 9 ((.slice none 0 (uc - q))) (L' := [(w.heap.size + 1, .cells #[.string ⟨#[]⟩, .string ⟨#[]⟩, .string ⟨#[]⟩, .string ⟨#[]⟩, .string ⟨#[]⟩, .int .u64 0, .int .u64 0, .int .u64 0, .slice none 0 0, .slice none 0 0] 36 (0, 0)), (w.heap.size, .cells #[.string ow, .string pe, .string ro, .string se, .string re, .int .u64 (st : Int), .int .u64 (gt : Int), .int .u64 (pv : Int), .slice K kn kc, (.slice none 0 (uc - q))] 36 (0, 0))]) rfl
        go_wp2_with (first | (refine wpList_load_row rfl 36 (.tmp 2) rfl w.heap.size (by rfl) _ #[.string ow, .string pe, .string ro, .string se, .string re, .int .u64 (st : Int), .int .u64 (gt : Int), .int .u64 (pv : Int), .slice K kn kc, (.slice none 0 (uc - q))] _ _ (HO.blk 1 rfl) Try.underlying36 rfl (by kernel_rfl) ?_) | (refine wpList_store_row rfl 36 (.tmp 4) (.tmp 37) rfl (w.heap.size + 1) #[.string ow, .string pe, .string ro, .string se, .string re, .int .u64 (st : Int), .int .u64 (gt : Int), .int .u64 (pv : Int), .slice K kn kc, (.slice none 0 (uc - q))] (by rfl) (by rfl) _ _ (HO.blk 0 rfl) (by kernel_rfl) rfl (sesC_one _ _ _ _ _ _ _ _ _ _ _ _ _ _) ?_))
        replace HO := HO.setRow 0 rfl #[.string ow, .string pe, .string ro, .string se, .string re, .int .u64 (st : Int), .int .u64 (gt : Int), .int .u64 (pv : Int), .slice K kn kc, (.slice none 0 (uc - q))] (L' := [(w.heap.size + 1, .cells #[.string ow, .string pe, .string ro, .string se, .string re, .int .u64 (st : Int), .int .u64 (gt : Int), .int .u64 (pv : Int), .slice K kn kc, (.slice none 0 (uc - q))] 36 (0, 0)), (w.heap.size, .cells #[.string ow, .string pe, .string ro, .string se, .string re, .int .u64 (st : Int), .int .u64 (gt : Int), .int .u64 (pv : Int), .slice K kn kc, (.slice none 0 (uc - q))] 36 (0, 0))]) rfl
        have cR := HO.cell 0 rfl
        exact bodyPost_ret (v := .tuple #[.agg #[.string ow, .string pe, .string ro, .string se, .string re, .int .u64 (st : Int), .int .u64 (gt : Int), .int .u64 (pv : Int), .slice K kn kc, (.slice none 0 (uc - q))], v, .int .i64 0]) (by simp [results, Try.results16, go_sem, cR]) rfl ⟨⟨v, by unfold restA; rw [if_neg hq, Nat.sub_self]; rfl, (HV.out.far (fun i hi => (setRow_other _ _ _ _ (by have := HZ.out; omega)).trans (Below.heap_setCell _ _ _ _ (by have := HZ.out; show i ≠ w.heap.size; omega)))).out⟩, HO.below⟩

      · skip
        go_enter Try.func16, Try.ntmps16
        go_wp2_with (refine wpList_load_row rfl 36 (.tmp 10) rfl w.heap.size (by rfl) _ #[.string ow, .string pe, .string ro, .string se, .string re, .int .u64 (st : Int), .int .u64 (gt : Int), .int .u64 (pv : Int), .slice K kn kc, .slice U un uc] _ _ (HO.blk 1 rfl) Try.underlying36 rfl (by kernel_rfl) ?_)
        refine (HR.out _ HO.below).mono ?_
        rintro e w1 ⟨rfl, hb⟩
        replace HO := HO.up hb
        clear hb
        have c1 := HO.cell 1 rfl
        have f1 := HO.frozen 1 rfl
        go_wp2_with fail
        have HZ := Lib.hid (HO.lt 0 rfl)
        refine (HCl.out _ HO.below).mono ?_
        rintro e w2 ⟨⟨v, rfl, hv⟩, hb⟩
        replace HO := HO.up hb
        have HV := Lib.hid (OutN_R hv)
        clear hb c1 f1 hv
        have c1 := HO.cell 1 rfl
        have f1 := HO.frozen 1 rfl
        replace HO := HO.set' 1 rfl 9 ((.slice (some (ad.add q)) 0 (uc - q))) (L' := [(w.heap.size + 1, .cells #[.string ⟨#[]⟩, .string ⟨#[]⟩, .string ⟨#[]⟩, .string ⟨#[]⟩, .string ⟨#[]⟩, .int .u64 0, .int .u64 0, .int .u64 0, .slice none 0 0, .slice none 0 0] 36 (0, 0)), (w.heap.size, .cells #[.string ow, .string pe, .string ro, .string se, .string re, .int .u64 (st : Int), .int .u64 (gt : Int), .int .u64 (pv : Int), .slice K kn kc, (.slice (some (ad.add q)) 0 (uc - q))] 36 (0, 0))]) rfl
        go_wp2_with (first | (refine wpList_load_row rfl 36 (.tmp 2) rfl w.heap.size (by rfl) _ #[.string ow, .string pe, .string ro, .string se, .string re, .int .u64 (st : Int), .int .u64 (gt : Int), .int .u64 (pv : Int), .slice K kn kc, (.slice (some (ad.add q)) 0 (uc - q))] _ _ (HO.blk 1 rfl) Try.underlying36 rfl (by kernel_rfl) ?_) | (refine wpList_store_row rfl 36 (.tmp 4) (.tmp 37) rfl (w.heap.size + 1) #[.string ow, .string pe, .string ro, .string se, .string re, .int .u64 (st : Int), .int .u64 (gt : Int), .int .u64 (pv : Int), .slice K kn kc, (.slice (some (ad.add q)) 0 (uc - q))] (by rfl) (by rfl) _ _ (HO.blk 0 rfl) (by kernel_rfl) rfl (sesC_one _ _ _ _ _ _ _ _ _ _ _ _ _ _) ?_))
        replace HO := HO.setRow 0 rfl #[.string ow, .string pe, .string ro, .string se, .string re, .int .u64 (st : Int), .int .u64 (gt : Int), .int .u64 (pv : Int), .slice K kn kc, (.slice (some (ad.add q)) 0 (uc - q))] (L' := [(w.heap.size + 1, .cells #[.string ow, .string pe, .string ro, .string se, .string re, .int .u64 (st : Int), .int .u64 (gt : Int), .int .u64 (pv : Int), .slice K kn kc, (.slice (some (ad.add q)) 0 (uc - q))] 36 (0, 0)), (w.heap.size, .cells #[.string ow, .string pe, .string ro, .string se, .string re, .int .u64 (st : Int), .int .u64 (gt : Int), .int .u64 (pv : Int), .slice K kn kc, (.slice (some (ad.add q)) 0 (uc - q))] 36 (0, 0))]) rfl
        have cR := HO.cell 0 rfl
        exact bodyPost_ret (v := .tuple #[.agg #[.string ow, .string pe, .string ro, .string se, .string re, .int .u64 (st : Int), .int .u64 (gt : Int), .int .u64 (pv : Int), .slice K kn kc, (.slice (some (ad.add q)) 0 (uc - q))], v, .int .i64 0]) (by simp [results, Try.results16, go_sem, cR]) rfl ⟨⟨v, by unfold restA; rw [if_neg hq, Nat.sub_self]; rfl, (HV.out.far (fun i hi => (setRow_other _ _ _ _ (by have := HZ.out; omega)).trans (Below.heap_setCell _ _ _ _ (by have := HZ.out; show i ≠ w.heap.size; omega)))).out⟩, HO.below⟩

  · generalize hq : min mo un = q at *
    obtain rfl : q = mo := by omega
    have i4 : (q : Int) ≤ (un : Int) := by omega
    have i6 : (q : Int) ≤ (uc : Int) := by omega
    clear hmn hq
    by_cases hq : uc = q
    · obtain rfl : un = q := by omega
      subst hq
      go_enter Try.func16, Try.ntmps16
      go_wp2_with (refine wpList_load_row rfl 36 (.tmp 10) rfl w.heap.size (by rfl) _ #[.string ow, .string pe, .string ro, .string se, .string re, .int .u64 (st : Int), .int .u64 (gt : Int), .int .u64 (pv : Int), .slice K kn kc, .slice U un uc] _ _ (HO.blk 1 rfl) Try.underlying36 rfl (by kernel_rfl) ?_)
      refine (HR.out _ HO.below).mono ?_
      rintro e w1 ⟨rfl, hb⟩
      replace HO := HO.up hb
      clear hb
      have c1 := HO.cell 1 rfl
      have f1 := HO.frozen 1 rfl
      go_wp2_with fail
      have HZ := Lib.hid (HO.lt 0 rfl)
      refine (HCl.out _ HO.below).mono ?_
      rintro e w2 ⟨⟨v, rfl, hv⟩, hb⟩
      replace HO := HO.up hb
      have HV := Lib.hid (OutN_R hv)
      clear hb c1 f1 hv
      have c1 := HO.cell 1 rfl
      have f1 := HO.frozen 1 rfl
      replace HO := HO.set' 1 rfl 9 ((.slice U 0 0)) (L' := [(w.heap.size + 1, .cells #[.string ⟨#[]⟩, .string ⟨#[]⟩, .string ⟨#[]⟩, .string ⟨#[]⟩, .string ⟨#[]⟩, .int .u64 0, .int .u64 0, .int .u64 0, .slice none 0 0, .slice none 0 0] 36 (0, 0)), (w.heap.size, .cells #[.string ow, .string pe, .string ro, .string se, .string re, .int .u64 (st : Int), .int .u64 (gt : Int), .int .u64 (pv : Int), .slice K kn kc, (.slice U 0 0)] 36 (0, 0))]) rfl
      go_wp2_with (first | (refine wpList_load_row rfl 36 (.tmp 2) rfl w.heap.size (by rfl) _ #[.string ow, .string pe, .string ro, .string se, .string re, .int .u64 (st : Int), .int .u64 (gt : Int), .int .u64 (pv : Int), .slice K kn kc, (.slice U 0 0)] _ _ (HO.blk 1 rfl) Try.underlying36 rfl (by kernel_rfl) ?_) | (refine wpList_store_row rfl 36 (.tmp 4) (.tmp 37) rfl (w.heap.size + 1) #[.string ow, .string pe, .string ro, .string se, .string re, .int .u64 (st : Int), .int .u64 (gt : Int), .int .u64 (pv : Int), .slice K kn kc, (.slice U 0 0)] (by rfl) (by rfl) _ _ (HO.blk 0 rfl) (by kernel_rfl) rfl (sesC_one _ _ _ _ _ _ _ _ _ _ _ _ _ _) ?_))
      replace HO := HO.setRow 0 rfl #[.string ow, .string pe, .string ro, .string se, .string re, .int .u64 (st : Int), .int .u64 (gt : Int), .int .u64 (pv : Int), .slice K kn kc, (.slice U 0 0)] (L' := [(w.heap.size + 1, .cells #[.string ow, .string pe, .string ro, .string se, .string re, .int .u64 (st : Int), .int .u64 (gt : Int), .int .u64 (pv : Int), .slice K kn kc, (.slice U 0 0)] 36 (0, 0)), (w.heap.size, .cells #[.string ow, .string pe, .string ro, .string se, .string re, .int .u64 (st : Int), .int .u64 (gt : Int), .int .u64 (pv : Int), .slice K kn kc, (.slice U 0 0)] 36 (0, 0))]) rfl
      have cR := HO.cell 0 rfl
      exact bodyPost_ret (v := .tuple #[.agg #[.string ow, .string pe, .string ro, .string se, .string re, .int .u64 (st : Int), .int .u64 (gt : Int), .int .u64 (pv : Int), .slice K kn kc, (.slice U 0 0)], v, .int .i64 0]) (by simp [results, Try.results16, go_sem, cR]) rfl ⟨⟨v, by unfold restA; rw [if_pos rfl, Nat.sub_self], (HV.out.far (fun i hi => (setRow_other _ _ _ _ (by have := HZ.out; omega)).trans (Below.heap_setCell _ _ _ _ (by have := HZ.out; show i ≠ w.heap.size; omega)))).out⟩, HO.below⟩

    · have hz : ¬ ((uc : Int) - (q : Int) = 0) := by omega
      rcases U with _ | ad
      · skip
        go_enter Try.func16, Try.ntmps16
        go_wp2_with (refine wpList_load_row rfl 36 (.tmp 10) rfl w.heap.size (by rfl) _ #[.string ow, .string pe, .string ro, .string se, .string re, .int .u64 (st : Int), .int .u64 (gt : Int), .int .u64 (pv : Int), .slice K kn kc, .slice U un uc] _ _ (HO.blk 1 rfl) Try.underlying36 rfl (by kernel_rfl) ?_)
        refine (HR.out _ HO.below).mono ?_
        rintro e w1 ⟨rfl, hb⟩
        replace HO := HO.up hb
        clear hb
        have c1 := HO.cell 1 rfl
        have f1 := HO.frozen 1 rfl
        go_wp2_with fail
        have HZ := Lib.hid (HO.lt 0 rfl)
        refine (HCl.out _ HO.below).mono ?_
        rintro e w2 ⟨⟨v, rfl, hv⟩, hb⟩
        replace HO := HO.up hb
        have HV := Lib.hid (OutN_R hv)
        clear hb c1 f1 hv
        have c1 := HO.cell 1 rfl
        have f1 := HO.frozen 1 rfl
        replace HO := HO.set' 1 rfl 9 ((.slice none (un - q) (uc - q))) (L' := [(w.heap.size + 1, .cells #[.string ⟨#[]⟩, .string ⟨#[]⟩, .string ⟨#[]⟩, .string ⟨#[]⟩, .string ⟨#[]⟩, .int .u64 0, .int .u64 0, .int .u64 0, .slice none 0 0, .slice none 0 0] 36 (0, 0)), (w.heap.size, .cells #[.string ow, .string pe, .string ro, .string se, .string re, .int .u64 (st : Int), .int .u64 (gt : Int), .int .u64 (pv : Int), .slice K kn kc, (.slice none (un - q) (uc - q))] 36 (0, 0))]) rfl
        go_wp2_with (first | (refine wpList_load_row rfl 36 (.tmp 2) rfl w.heap.size (by rfl) _ #[.string ow, .string pe, .string ro, .string se, .string re, .int .u64 (st : Int), .int .u64 (gt : Int), .int .u64 (pv : Int), .slice K kn kc, (.slice none (un - q) (uc - q))] _ _ (HO.blk 1 rfl) Try.underlying36 rfl (by kernel_rfl) ?_) | (refine wpList_store_row rfl 36 (.tmp 4) (.tmp 37) rfl (w.heap.size + 1) #[.string ow, .string pe, .string ro, .string se, .string re, .int .u64 (st : Int), .int .u64 (gt : Int), .int .u64 (pv : Int), .slice K kn kc, (.slice none (un - q) (uc - q))] (by rfl) (by rfl) _ _ (HO.blk 0 rfl) (by kernel_rfl) rfl (sesC_one _ _ _ _ _ _ _ _ _ _ _ _ _ _) ?_))
        replace HO := HO.setRow 0 rfl #[.string ow, .string pe, .string ro, .string se, .string re, .int .u64 (st : Int), .int .u64 (gt : Int), .int .u64 (pv : Int), .slice K kn kc, (.slice none (un - q) (uc - q))] (L' := [(w.heap.size + 1, .cells #[.string ow, .string pe, .string ro, .string se, .string re, .int .u64 (st : Int), .int .u64 (gt : Int), .int .u64 (pv : Int), .slice K kn kc, (.slice none (un - q) (uc - q))] 36 (0, 0)), (w.heap.size, .cells #[.string ow, .string pe, .string ro, .string se, .string re, .int .u64 (st : Int), .int .u64 (gt : Int), .int .u64 (pv : Int), .slice K kn kc, (.slice none (un - q) (uc - q))] 36 (0, 0))]) rfl
        have cR := HO.cell 0 rfl
        exact bodyPost_ret (v := .tuple #[.agg #[.string ow, .string pe, .string ro, .string se, .string re, .int .u64 (st : Int), .int .u64 (gt : Int), .int .u64 (pv : Int), .slice K kn kc, (.slice none (un - q) (uc - q))], v, .int .i64 0]) (by simp [results, Try.results16, go_sem, cR]) rfl ⟨⟨v, by unfold restA; rw [if_neg hq]; rfl, (HV.out.far (fun i hi => (setRow_other _ _ _ _ (by have := HZ.out; omega)).trans (Below.heap_setCell _ _ _ _ (by have := HZ.out; show i ≠ w.heap.size; omega)))).out⟩, HO.below⟩

      · skip
        go_enter Try.func16, Try.ntmps16
        go_wp2_with (refine wpList_load_row rfl 36 (.tmp 10) rfl w.heap.size (by rfl) _ #[.string ow, .string pe, .string ro, .string se, .string re, .int .u64 (st : Int), .int .u64 (gt : Int), .int .u64 (pv : Int), .slice K kn kc, .slice U un uc] _ _ (HO.blk 1 rfl) Try.underlying36 rfl (by kernel_rfl) ?_)
        refine (HR.out _ HO.below).mono ?_
        rintro e w1 ⟨rfl, hb⟩
        replace HO := HO.up hb
        clear hb
        have c1 := HO.cell 1 rfl
        have f1 := HO.frozen 1 rfl
        go_wp2_with fail
        have HZ := Lib.hid (HO.lt 0 rfl)
        refine (HCl.out _ HO.below).mono ?_
        rintro e w2 ⟨⟨v, rfl, hv⟩, hb⟩
        replace HO := HO.up hb
        have HV := Lib.hid (OutN_R hv)
        clear hb c1 f1 hv
        have c1 := HO.cell 1 rfl
        have f1 := HO.frozen 1 rfl
        replace HO := HO.set' 1 rfl 9 ((.slice (some (ad.add q)) (un - q) (uc - q))) (L' := [(w.heap.size + 1, .cells #[.string ⟨#[]⟩, .string ⟨#[]⟩, .string ⟨#[]⟩, .string ⟨#[]⟩, .string ⟨#[]⟩, .int .u64 0, .int .u64 0, .int .u64 0, .slice none 0 0, .slice none 0 0] 36 (0, 0)), (w.heap.size, .cells #[.string ow, .string pe, .string ro, .string se, .string re, .int .u64 (st : Int), .int .u64 (gt : Int), .int .u64 (pv : Int), .slice K kn kc, (.slice (some (ad.add q)) (un - q) (uc - q))] 36 (0, 0))]) rfl
        go_wp2_with (first | (refine wpList_load_row rfl 36 (.tmp 2) rfl w.heap.size (by rfl) _ #[.string ow, .string pe, .string ro, .string se, .string re, .int .u64 (st : Int), .int .u64 (gt : Int), .int .u64 (pv : Int), .slice K kn kc, (.slice (some (ad.add q)) (un - q) (uc - q))] _ _ (HO.blk 1 rfl) Try.underlying36 rfl (by kernel_rfl) ?_) | (refine wpList_store_row rfl 36 (.tmp 4) (.tmp 37) rfl (w.heap.size + 1) #[.string ow, .string pe, .string ro, .string se, .string re, .int .u64 (st : Int), .int .u64 (gt : Int), .int .u64 (pv : Int), .slice K kn kc, (.slice (some (ad.add q)) (un - q) (uc - q))] (by rfl) (by rfl) _ _ (HO.blk 0 rfl) (by kernel_rfl) rfl (sesC_one _ _ _ _ _ _ _ _ _ _ _ _ _ _) ?_))
        replace HO := HO.setRow 0 rfl #[.string ow, .string pe, .string ro, .string se, .string re, .int .u64 (st : Int), .int .u64 (gt : Int), .int .u64 (pv : Int), .slice K kn kc, (.slice (some (ad.add q)) (un - q) (uc - q))] (L' := [(w.heap.size + 1, .cells #[.string ow, .string pe, .string ro, .string se, .string re, .int .u64 (st : Int), .int .u64 (gt : Int), .int .u64 (pv : Int), .slice K kn kc, (.slice (some (ad.add q)) (un - q) (uc - q))] 36 (0, 0)), (w.heap.size, .cells #[.string ow, .string pe, .string ro, .string se, .string re, .int .u64 (st : Int), .int .u64 (gt : Int), .int .u64 (pv : Int), .slice K kn kc, (.slice (some (ad.add q)) (un - q) (uc - q))] 36 (0, 0))]) rfl
        have cR := HO.cell 0 rfl
        exact bodyPost_ret (v := .tuple #[.agg #[.string ow, .string pe, .string ro, .string se, .string re, .int .u64 (st : Int), .int .u64 (gt : Int), .int .u64 (pv : Int), .slice K kn kc, (.slice (some (ad.add q)) (un - q) (uc - q))], v, .int .i64 0]) (by simp [results, Try.results16, go_sem, cR]) rfl ⟨⟨v, by unfold restA; rw [if_neg hq]; rfl, (HV.out.far (fun i hi => (setRow_other _ _ _ _ (by have := HZ.out; omega)).trans (Below.heap_setCell _ _ _ _ (by have := HZ.out; show i ≠ w.heap.size; omega)))).out⟩, HO.below⟩

end Go.Proofs.Ytfghjahmnjghgaa

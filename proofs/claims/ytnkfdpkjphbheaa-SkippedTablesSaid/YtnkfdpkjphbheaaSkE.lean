import Derived.Test.YtnkfdpkjphbheaaSkD
import Derived.Test.YtnkfdpkjphbheaaPSkippedTablesx3
import Derived.Test.YtnkfdpkjphbheaaPSkippedTablesx4
namespace Go.Proofs.Ytnkfdpkjphbheaa
open Go.RowKit Go.Proofs.YtnkfdpkjphbheaaW.PrintWords Go.Proofs.YtnkfdpkjphbheaaW.PrintLast
deriving instance DecidableEq for KeptD
abbrev S28 := PSkippedTables.S28
abbrev k28 := PSkippedTables.k28
def toS (x : KeptD) : S28 := ⟨x.r, x.n, x.k⟩
theorem C_toS {w : World} {A : Option Addr} {n : Nat} {xs : List KeptD} (h : Kd.C kK w A n xs) : Kd.C k28 w A n (xs.map toS) := by
  obtain ⟨h1, h2, h3⟩ := h
  refine ⟨by simpa using h1, h2, fun hp => ?_⟩
  obtain ⟨ad, e, hc⟩ := h3 hp
  refine ⟨ad, e, fun j p hj => ?_⟩
  rw [List.getElem?_map] at hj
  obtain ⟨q, hq, rfl⟩ := Option.map_eq_some_iff.1 hj
  obtain ⟨c, hl, hK, hcell⟩ := hc j q hq
  obtain rfl : c = encK q := hK
  exact ⟨_, rfl, PSkippedTables.k28_mk w (toS q), hcell⟩
theorem C_ofS {w : World} {A : Option Addr} {n : Nat} {xs : List KeptD} (h : Kd.C k28 w A n (xs.map toS)) : Kd.C kK w A n xs := by
  obtain ⟨h1, h2, h3⟩ := h
  refine ⟨by simpa using h1, h2, fun hp => ?_⟩
  obtain ⟨ad, e, hc⟩ := h3 hp
  refine ⟨ad, e, fun j p hj => ?_⟩
  obtain ⟨c, hl, hK, hcell⟩ := hc j (toS p) (by rw [List.getElem?_map, hj]; rfl)
  obtain rfl := PSkippedTables.k28_open hK
  exact ⟨_, rfl, rfl, hcell⟩
theorem R_Out {α : Type} {d : Kd α} {e base : Nat} {ok : Nat → Prop} {w : World} {v : Value} {xs : List α} (h : d.R e w base ok v xs) : Out d w v xs := by
  obtain ⟨_, inner, ho, hr⟩ := h
  have hn : xs.length = xs.length := rfl
  obtain ⟨A, c, he, hc⟩ := own_reads_row ho (hr.imp_ (fun _ _ hp => d.K_of_M hp)) rfl
  refine ⟨A, c, he, ?_, ?_, hc⟩
  all_goals
    rcases ho.2 with ⟨e1, h0⟩ | ⟨g, cap, cur, e1, _, _, h2, h3, _⟩
    · rw [e1] at he; injection he with _ _ he; subst he; omega
    · rw [e1] at he; injection he with _ _ he; subst he; simp only [maxLen] at h3; omega
theorem Out_ofS {w : World} {v : Value} {xs : List KeptD} (h : Out k28 w v (xs.map toS)) : Out kK w v xs := by
  obtain ⟨A, c, rfl, h1, h2, h3⟩ := h
  rw [List.length_map] at h1 h3
  exact ⟨A, c, by rw [List.length_map], h1, h2, C_ofS h3⟩
theorem wrap1 (i : Nat) (h : i < 1000000) : wrap64 ((i : Int) + 1) = ((i + 1 : Nat) : Int) := by unfold wrap64; omega
theorem rd_map {xs : List KeptD} {i : Nat} {p : KeptD} (h : xs[i]? = some p) : PSkippedTables.rd_T28 (xs.map toS) (i : Int) = toS p := by
  unfold PSkippedTables.rd_T28
  rw [List.getD_eq_getElem?_getD, List.getElem?_map, Int.toNat_natCast, h]; rfl
theorem toList_inj {a b : ByteArray} : (a.toList == b.toList) = decide (a = b) := by
  rw [Bool.eq_iff_iff, beq_iff_eq, decide_eq_true_iff, ByteArray.toList_eq, ByteArray.toList_eq]
  constructor
  · intro h
    cases a; cases b; congr 1; exact Array.toList_inj.1 h
  · rintro rfl; rfl
theorem sizedS (x : KeptD) : PSkippedTables.demurralref12_Sized.f (toS x).f0 (toS x).f1 (toS x).f2 = some (sizedK x) := by
  unfold PSkippedTables.demurralref12_Sized.f sizedK toS
  dsimp only
  by_cases h : x.r.size = 32
  · rw [if_pos (by omega), h, show ((x.k.size : Int) == 32) = (x.k.size == 32) from int_beq _ 32]; rfl
  · rw [if_neg (by omega), show (x.r.size == 32) = false by simpa using h]; rfl
theorem atS_l (xs : List KeptD) (r : ByteArray) (n : Nat) (hx : xs.length ≤ 1000) : ∀ k i : Nat, i ≤ xs.length → xs.length - i < k → (∀ q ∈ xs.take i, sameN q r n = false) → PSkippedTables.demurralref12_At.l0 k r n (xs.map toS) xs.length i = some (atI xs r n) := by
  intro k
  induction k with
  | zero => intro i _ h; omega
  | succ k ih =>
    intro i hi hk hn
    unfold PSkippedTables.demurralref12_At.l0
    by_cases hlt : i < xs.length
    · have hp := List.getElem?_eq_getElem hlt
      generalize xs[i] = p at hp
      rw [if_pos (by omega), if_pos (by omega), if_pos (by simp; omega), rd_map hp]
      have hs : sameN p r n = (p.r.toList == r.toList && p.n == n) := rfl
      cases h : sameN p r n
      · have hr := ih (i + 1) (by omega) (by omega) (none_next hp hn h)
        rw [wrap1 i (by omega), hr]
        by_cases h1 : p.r.toList = r.toList
        · have h2 : ¬ ((p.n : Int) = n) := by
            rw [h] at hs; simp [h1] at hs; omega
          rw [if_pos (by exact h1), if_neg (by exact h2)]
        · rw [if_neg (by exact h1)]
      · rw [h] at hs
        simp at hs
        rw [if_pos (by exact hs.1), if_pos (by show (p.n : Int) = n; rw [hs.2]), atI_hit hp hn h]
    · rw [if_neg (by omega), atI_miss]
      rw [List.take_of_length_le (by omega)] at hn
      exact hn
theorem atS (xs : List KeptD) (r : ByteArray) (n : Nat) (k : Nat) (hx : xs.length ≤ 1000) (hk : xs.length < k) : PSkippedTables.demurralref12_At.f k (xs.map toS) r n = some (atI xs r n) := by
  unfold PSkippedTables.demurralref12_At.f
  rw [List.length_map]
  exact atS_l xs r n hx k 0 (by omega) (by omega) (by simp)
theorem rightS_l (xs : List KeptD) (hx : xs.length ≤ 1000) : ∀ k i : Nat, i ≤ xs.length → 2 * xs.length - i < k → (∀ j < i, okAt xs j = true) → PSkippedTables.demurralref12_Right.l0 k (xs.map toS) (xs.map toS) xs.length i = some (rightK xs) := by
  intro k
  induction k with
  | zero => intro i _ h; omega
  | succ k ih =>
    intro i hi hk hn
    unfold PSkippedTables.demurralref12_Right.l0
    by_cases hlt : i < xs.length
    · have hp := List.getElem?_eq_getElem hlt
      generalize xs[i] = p at hp
      rw [if_pos (by omega), if_pos (by omega), if_pos (by simp; omega), rd_map hp, sizedS, Option.bind_some]
      have hb : okAt xs i = false → rightK xs = false := fun h => by
        unfold rightK
        rw [Bool.and_eq_false_iff]
        left
        rw [List.all_eq_false]
        exact ⟨i, List.mem_range.2 hlt, by simp [h]⟩
      have hs : okAt xs i = (sizedK p && decide (atI (xs.take i) p.r p.n < 0)) := by unfold okAt; rw [hp]
      cases h1 : sizedK p
      · rw [if_neg (by decide), hb (by rw [hs, h1]; rfl)]
      · rw [if_pos rfl, if_pos (by simp; omega), ← List.map_take, show ((i : Int)).toNat = i from rfl, show (toS p).f0 = p.r from rfl, show (toS p).f1 = (p.n : Int) from rfl, atS (xs.take i) _ _ k (by simp; omega) (by simp; omega), Option.bind_some]
        by_cases h2 : atI (xs.take i) p.r p.n < 0
        · rw [if_neg (by omega), wrap1 i (by omega)]
          refine ih (i + 1) (by omega) (by omega) (fun j hj => ?_)
          by_cases hji : j = i
          · subst hji; rw [hs, h1, decide_eq_true h2]; rfl
          · exact hn j (by omega)
        · rw [if_pos (by omega), hb (by rw [hs, h1, decide_eq_false h2]; rfl)]
    · rw [if_neg (by omega), List.length_map]
      congr 1
      unfold rightK
      rw [show (List.range xs.length).all (okAt xs) = true from List.all_eq_true.2 (fun j hj => hn j (by have := List.mem_range.1 hj; omega)), Bool.true_and]
      exact decide_eq_decide.2 (by omega)
theorem rightS (xs : List KeptD) (hx : xs.length ≤ 1000) : PSkippedTables.demurralref12_Right.f (2 * xs.length + 1) (xs.map toS) = some (rightK xs) := by
  unfold PSkippedTables.demurralref12_Right.f
  rw [List.length_map]
  exact rightS_l xs hx _ 0 (by omega) (by omega) (by intro j hj; omega)
end Go.Proofs.Ytnkfdpkjphbheaa

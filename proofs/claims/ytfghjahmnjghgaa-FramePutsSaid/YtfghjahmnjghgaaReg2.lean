import Derived.Test.YtfghjahmnjghgaaReg
/-! Two or three operations may come up: each of them is shown. -/
namespace Go.Proofs.Ytfghjahmnjghgaa
open Go.RowKit
/-- A code that only goes on. -/
def OnlyN (M : Act → World → Prop) : Exit → Act → World → Prop
  | .normal, a, w => M a w
  | _, _, _ => False
theorem not_lets (M : Act → World → Prop) : ¬ LetsOut (OnlyN M) := fun ⟨_, _, h⟩ => h
theorem wp_cut {P : Program} {c : Code} {Q : Exit → Act → World → Prop} {a : Act} {w : World} (M : Act → World → Prop) (h : c.wp P (OnlyN M) a w) (hq : ∀ a w, M a w → Q .normal a w) : c.wp P Q a w :=
  wp_mono h fun e a w h => by cases e <;> first | exact hq _ _ h | exact h.elim
structure Shut (p : Prop) : Prop where
  out : p
/-- The same, what is to be shown out of sight. -/
theorem wp_cutS {P : Program} {c : Code} {Q : Exit → Act → World → Prop} {a : Act} {w : World} (M : Act → World → Prop) (h : ∀ M' : Act → World → Prop, Shut (∀ a w, M a w → M' a w) → c.wp P (OnlyN M') a w) (hq : ∀ a w, M a w → Q .normal a w) : c.wp P Q a w :=
  wp_cut M (h M ⟨fun _ _ h => h⟩) hq
section
variable {P : Program} {ops : Array Oper} {Q : Exit → Act → World → Prop} {md : Region.Mode} {ds : List Nat}
/-- Operation i is run, in a world that has grown. -/
def KRun (P : Program) (md : Region.Mode) (ops : Array Oper) (Q : Exit → Act → World → Prop) (ds : List Nat) (fuel : Nat) (i : Nat) (N : Option Tmp) (oi : Oper) (l' : Array Bool) (a : Act) (w : World) : Prop :=
  ∀ w1, Gr w w1 → ∀ K : Act → World → Prop, (∀ a' w', (i ∉ ds → Gr w1 w') → wpK P md ops Q ds fuel l' a' w' → K a' w') → if Region.wanted oi (yielded ops a.tmps) = true then Oper.wp P oi a w1 K Q else K (a.put N undef) w1
theorem kmany {fuel : Nat} {l : Array Bool} {a : Act} {w : World} {r : List Nat} (hr : Region.ready md ops l = r) (hne : r ≠ [])
    (h : ∀ i ∈ r, ∃ oi, ops[i]? = some oi ∧ KRun P md ops Q ds fuel i oi.dst oi (l.setIfInBounds i true) a w) : wpK P md ops Q ds (fuel + 1) l a w := by
  intro w1 hg
  refine ⟨fun h0 => absurd (hr.symm.trans h0) hne, fun j hj => ?_⟩
  rw [hr] at hj
  obtain ⟨oi, hi, h⟩ := h j hj
  exact wpOp_step hi (fun K' hK => h w1 hg K' (fun a' w' h2 h3 => hK a' w' ⟨h2, h3⟩))
theorem ktwo {i j : Nat} {N M : Option Tmp} {oi oj : Oper} {fuel : Nat} {l : Array Bool} {a : Act} {w : World} (li lj : Array Bool)
    (hi : ops[i]? = some oi) (hj : ops[j]? = some oj) (hN : oi.dst = N) (hM : oj.dst = M)
    (hc : ((Region.ready md ops l == [i, j]) && (l.setIfInBounds i true == li) && (l.setIfInBounds j true == lj)) = true)
    (h1 : KRun P md ops Q ds fuel i N oi li a w) (h2 : KRun P md ops Q ds fuel j M oj lj a w) : wpK P md ops Q ds (fuel + 1) l a w := by
  subst hN hM
  simp only [Bool.and_eq_true, beq_iff_eq] at hc
  obtain ⟨⟨hr, rfl⟩, rfl⟩ := hc
  refine kmany hr (by simp) fun k hk => ?_
  simp only [List.mem_cons, List.not_mem_nil, or_false] at hk
  rcases hk with rfl | rfl
  · exact ⟨_, hi, h1⟩
  · exact ⟨_, hj, h2⟩
theorem kthree {i j k : Nat} {N M O : Option Tmp} {oi oj ok : Oper} {fuel : Nat} {l : Array Bool} {a : Act} {w : World} (li lj lk : Array Bool)
    (hi : ops[i]? = some oi) (hj : ops[j]? = some oj) (hk : ops[k]? = some ok) (hN : oi.dst = N) (hM : oj.dst = M) (hO : ok.dst = O)
    (hc : ((Region.ready md ops l == [i, j, k]) && (l.setIfInBounds i true == li) && (l.setIfInBounds j true == lj) && (l.setIfInBounds k true == lk)) = true)
    (h1 : KRun P md ops Q ds fuel i N oi li a w) (h2 : KRun P md ops Q ds fuel j M oj lj a w) (h3 : KRun P md ops Q ds fuel k O ok lk a w) : wpK P md ops Q ds (fuel + 1) l a w := by
  subst hN hM hO
  simp only [Bool.and_eq_true, beq_iff_eq] at hc
  obtain ⟨⟨⟨hr, rfl⟩, rfl⟩, rfl⟩ := hc
  refine kmany hr (by simp) fun m hm => ?_
  simp only [List.mem_cons, List.not_mem_nil, or_false] at hm
  rcases hm with rfl | rfl | rfl
  · exact ⟨_, hi, h1⟩
  · exact ⟨_, hj, h2⟩
  · exact ⟨_, hk, h3⟩
end
end Go.Proofs.Ytfghjahmnjghgaa

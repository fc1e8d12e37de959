import Derived.Orders
import Derived.Below
import Derived.Deep.Draws
import Derived.Deep.RegionHeld3
namespace Go.Proofs.Ytfghjahmnjghgaa
open Go.RowKit
/-- Only new blocks. -/
def Gr (w w1 : World) : Prop := Below w.heap.size w w1
theorem Gr.refl (w : World) : Gr w w := Below.refl _ _
theorem Gr.trans {a b c : World} (h : Gr a b) (k : Gr b c) : Gr a c := Below.trans h (Below.mono k (Below.size h))
theorem Gr.drew {a b : World} (h : Gr a b) : Gr a b.drew := Below.drew h

section
variable {P : Program} {ops : Array Oper} {Q : Exit → Act → World → Prop} {md : Region.Mode} {ds : List Nat}

/-- A run that gives v, and makes memory at most. -/
def RunG (P : Program) (w : World) (v : Value) : Result Next → Prop
  | .ok (.value u) w' => u = v ∧ Gr w w'
  | .ok (.enter f args) w' => Gr w w' ∧ Calls P f args w' fun e w'' => e = .returned v ∧ Gr w w''
  | _ => False
/-- An operation that gives v, in every world that has grown out of w. -/
def YG (P : Program) (ops : Array Oper) (o : Oper) (v : Value) (a : Act) (w : World) : Prop :=
  (Region.wanted o (yielded ops a.tmps) = true ∧ ∀ w1, Gr w w1 → RunG P w1 v ((execOp a.eval o).run P w1)) ∨
  (Region.wanted o (yielded ops a.tmps) = false ∧ v = undef)
theorem YG.up {o : Oper} {v : Value} {a : Act} {w w1 : World} (h : YG P ops o v a w) (hg : Gr w w1) : YG P ops o v a w1 :=
  h.imp (fun h => ⟨h.1, fun w2 h2 => h.2 w2 (hg.trans h2)⟩) id
theorem YG.of_same {o : Oper} {v : Value} {a a' : Act} {w : World} (hy : YG P ops o v a w) (he : execOp a'.eval o = execOp a.eval o)
    (hw : Region.wanted o (yielded ops a'.tmps) = Region.wanted o (yielded ops a.tmps)) : YG P ops o v a' w := by
  unfold YG at *
  rw [he, hw]
  exact hy
theorem RunG.wp {o : Oper} {v : Value} {a : Act} {w : World} {K : Act → World → Prop} (h : RunG P w v ((execOp a.eval o).run P w))
    (hK : ∀ w', Gr w w' → K (a.put o.dst v) w') : o.wp P a w K Q := by
  unfold Oper.wp
  generalize (execOp a.eval o).run P w = r at *
  cases r with
  | ok n w' =>
    cases n <;> simp only [RunG] at h
    case value u => obtain ⟨rfl, hg⟩ := h; exact hK _ hg
    case enter f args =>
      refine Calls.mono h.2 fun e w'' he => ?_
      obtain ⟨rfl, hg⟩ := he
      exact hK _ hg
  | halt x w' => exact h.elim
theorem YG.wpOp {i : Nat} {o : Oper} {v : Value} {a : Act} {w : World} (hi : ops[i]? = some o) (hy : YG P ops o v a w)
    {K : Act → World → Prop} (h : ∀ w', Gr w w' → K (a.put o.dst v) w') : Go.wpOp P ops Q i K a w := by
  unfold Go.wpOp
  simp only [hi]
  rcases hy with ⟨hw, hv⟩ | ⟨hw, rfl⟩
  · simp only [hw, if_true]; exact .inl ((hv w (.refl w)).wp h)
  · simp only [hw, Bool.false_eq_true, if_false]; exact h _ (.refl w)

/-- An operation j that has nothing to do with i may as well run ahead of it. -/
theorem wpOp_putG {j : Nat} {oi oj : Oper} {v : Value} (hj : ops[j]? = some oj) (hap : oi.apart ops oj = true)
    (hsi : ∀ cs b, oi.op ≠ .select cs b) (hsj : ∀ cs b, oj.op ≠ .select cs b)
    (hQ : ∀ c a w, Q (.panic c) (a.put oi.dst v) w → Q (.panic c) a w) {K : Act → World → Prop} {a : Act} {w : World}
    (h : wpOp P ops Q j K (a.put oi.dst v) w) :
    wpOp P ops Q j (fun a' w' => (execOp a'.eval oi = execOp a.eval oi ∧ Region.wanted oi (yielded ops a'.tmps) = Region.wanted oi (yielded ops a.tmps)) ∧ K (a'.put oi.dst v) w') a w := by
  obtain ⟨h1, h2, h3⟩ := Oper.apart_spec hap
  have keep : ∀ (a : Act) u, execOp (a.put oj.dst u).eval oi = execOp a.eval oi ∧ Region.wanted oi (yielded ops (a.put oj.dst u).tmps) = Region.wanted oi (yielded ops a.tmps) := fun a u =>
    ⟨execOp_put oi hsi a oj.dst u h3, wanted_put oi a oj.dst u h3⟩
  unfold wpOp at *
  simp only [hj] at *
  rw [wanted_put oj a oi.dst v h1] at h
  split
  · rename_i hw
    simp only [hw, if_true] at h
    rcases h with h | ⟨hasks, hlets⟩
    case inr => exact .inr ⟨by unfold Oper.asks at *; rw [execOp_put oj hsj a oi.dst v h1] at hasks; exact hasks, hlets⟩
    refine .inl ?_
    unfold Oper.wp at *
    rw [execOp_put oj hsj a oi.dst v h1] at h
    generalize (execOp a.eval oj).run P w = r at *
    cases r with
    | ok n w' =>
      cases n <;> simp only [Oper.upon] at h ⊢
      case value u => exact ⟨keep a u, by rw [← Act.put_comm a v u h2]; exact h⟩
      case skip => exact ⟨keep a _, by rw [← Act.put_comm a v undef h2]; exact h⟩
      case defer d =>
        refine ⟨keep { a with defers := d :: a.defers } _, ?_⟩
        rw [← Act.put_comm _ v undef h2, ← Act.put_defers]
        exact h
      case enter f args =>
        refine Calls.mono h fun e w'' he => ?_
        cases e with
        | returned u => exact ⟨keep a u, by rw [← Act.put_comm a v u h2]; exact he⟩
        | panicked c => exact hQ _ _ _ he
        | outgrown => exact he
      case row row args => exact Rows.mono h fun u w'' he => ⟨keep a u, by rw [← Act.put_comm a v u h2]; exact he⟩
    | halt x w' =>
      cases x <;> simp only [Oper.upon] at h ⊢
      case panic u => exact hQ _ _ _ h
  · rename_i hw
    simp only [hw] at h
    exact ⟨keep a _, by rw [← Act.put_comm a v undef h2]; exact h⟩

/-! ### reachability, closed lists (as in the print's words for a last store) -/
def reachB (md : Region.Mode) (ops : Array Oper) (i : Nat) : Nat → Nat → Bool
  | 0, _ => false
  | fuel + 1, d => match ops[d]? with
    | some o => o.after.any fun e => Region.binds md e && (e.on == i || reachB md ops i fuel e.on)
    | none => false
def closedB (md : Region.Mode) (ops : Array Oper) (listed : Array Bool) : Bool :=
  (List.range ops.size).all fun j => !listed.getD j false || match ops[j]? with
    | some o => o.after.all fun e => !Region.binds md e || listed.getD e.on false
    | none => true
def lastB (md : Region.Mode) (ops : Array Oper) (listed : Array Bool) (ds : List Nat) (i : Nat) : Bool :=
  ds.all fun d => listed.getD d true || reachB md ops i ops.size d
def LClosed (md : Region.Mode) (ops : Array Oper) (listed : Array Bool) : Prop :=
  ∀ j oj, ops[j]? = some oj → listed.getD j false = true → ∀ e ∈ oj.after, Region.binds md e = true → listed.getD e.on false = true
theorem closedB_spec {listed : Array Bool} (h : closedB md ops listed = true) : LClosed md ops listed := by
  intro j oj hj hl e he hb
  have hlt : j < ops.size := (Array.getElem?_eq_some_iff.1 hj).1
  have h1 := List.all_eq_true.1 h j (List.mem_range.2 hlt)
  simp only [hl, hj, Bool.not_true, Bool.false_or] at h1
  have h2 := Array.all_eq_true_iff_forall_mem.1 h1 e he
  simpa [hb] using h2
theorem LClosed.set {listed : Array Bool} {i : Nat} (h : LClosed md ops listed) (hi : i ∈ Region.ready md ops listed) : LClosed md ops (listed.setIfInBounds i true) := by
  obtain ⟨_, oi, hoi, hall⟩ := mem_ready.1 hi
  intro j oj hj hl e he hb
  by_cases hij : i = j
  · subst hij
    have : oj = oi := Option.some.inj (hj.symm.trans hoi)
    subst this
    exact getD_set_true (hall e he hb)
  · rw [getD_set_ne false hij] at hl
    exact getD_set_true (h j oj hj hl e he hb)
theorem reach_listed {listed : Array Bool} {i : Nat} (hc : LClosed md ops listed) : ∀ (fuel d : Nat), reachB md ops i fuel d = true → listed.getD d false = true → listed.getD i false = true
  | 0, _, h, _ => by simp [reachB] at h
  | fuel + 1, d, h, hl => by
    unfold reachB at h
    cases ho : ops[d]? with
    | none => rw [ho] at h; simp at h
    | some o =>
      rw [ho] at h
      obtain ⟨e, he, h1⟩ := Array.any_eq_true'.1 h
      simp only [Bool.and_eq_true, Bool.or_eq_true, beq_iff_eq] at h1
      have hle := hc d o ho hl e he h1.1
      rcases h1.2 with h2 | h2
      · rw [← h2]; exact hle
      · exact reach_listed hc fuel e.on h2 hle
theorem reach_not_ready {listed : Array Bool} {i d fuel : Nat} (hc : LClosed md ops listed) (hr : reachB md ops i fuel d = true) (hun : listed.getD i true = false) : d ∉ Region.ready md ops listed := by
  intro hd
  obtain ⟨_, o, ho, hall⟩ := mem_ready.1 hd
  have hi : listed.getD i false = true := by
    cases fuel with
    | zero => simp [reachB] at hr
    | succ n =>
      unfold reachB at hr
      rw [ho] at hr
      obtain ⟨e, he, h1⟩ := Array.any_eq_true'.1 hr
      simp only [Bool.and_eq_true, Bool.or_eq_true, beq_iff_eq] at h1
      have hle := hall e he h1.1
      rcases h1.2 with h2 | h2
      · rw [← h2]; exact hle
      · exact reach_listed hc n e.on h2 hle
  rcases Nat.lt_or_ge i listed.size with h' | h'
  · simp [h'] at hun hi
    rw [hun] at hi
    cases hi
  · simp [Array.getElem?_eq_none h'] at hun

/-- Whatever order is picked from here on, in whatever world that has grown out of w; behind every operation but those of ds the world has only grown. -/
def wpK (P : Program) (md : Region.Mode) (ops : Array Oper) (Q : Exit → Act → World → Prop) (ds : List Nat) : Nat → Array Bool → Act → World → Prop
  | 0, l, a, w => ∀ w1, Gr w w1 → Region.ready md ops l = [] ∧ Q .normal a w1
  | fuel + 1, l, a, w => ∀ w1, Gr w w1 → (Region.ready md ops l = [] → Q .normal a w1) ∧
    ∀ i ∈ Region.ready md ops l, wpOp P ops Q i (fun a' w' => (i ∉ ds → Gr w1 w') ∧ wpK P md ops Q ds fuel (l.setIfInBounds i true) a' w') a w1
theorem wpK.up : ∀ {fuel : Nat} {l : Array Bool} {a : Act} {w w1 : World}, wpK P md ops Q ds fuel l a w → Gr w w1 → wpK P md ops Q ds fuel l a w1
  | 0, _, _, _, _, h, hg => fun w2 h2 => h w2 (hg.trans h2)
  | _ + 1, _, _, _, _, h, hg => fun w2 h2 => h w2 (hg.trans h2)
theorem wpAny_of_K : ∀ (fuel : Nat) (l : Array Bool) (a : Act) (w : World), wpK P md ops Q ds fuel l a w → wpAny P md ops Q fuel l a w
  | 0, _, _, w, h => h w (.refl w)
  | fuel + 1, _, _, w, h => ⟨(h w (.refl w)).1, fun i hi => wpOp_mono (fun a' w' h' => wpAny_of_K fuel _ a' w' h'.2) ((h w (.refl w)).2 i hi)⟩

theorem wpK_first {i : Nat} {oi : Oper} {v : Value} (hi : ops[i]? = some oi) (hsel : ∀ (j : Nat) (o : Oper) cs b, ops[j]? = some o → o.op ≠ .select cs b)
    (hQ : ∀ c a w, Q (.panic c) (a.put oi.dst v) w → Q (.panic c) a w) (n : Nat) :
    ∀ (fuel : Nat) (listed : Array Bool) (a : Act) (w : World),
      (∀ j oj, ops[j]? = some oj → j ≠ i → listed.getD j true = false → (∀ e ∈ oj.after, Region.binds md e = true → e.on ≠ i) → oi.apart ops oj = true) →
      LClosed md ops listed → (∀ d ∈ ds, listed.getD d true = false → reachB md ops i n d = true) →
      i ∈ Region.ready md ops listed → YG P ops oi v a w →
      wpK P md ops Q ds fuel (listed.setIfInBounds i true) (a.put oi.dst v) w → wpK P md ops Q ds (fuel + 1) listed a w := by
  intro fuel
  induction fuel with
  | zero =>
    intro listed a w _ _ _ hr hy H w1 hg
    refine ⟨fun h => (by rw [h] at hr; cases hr), fun j hj => ?_⟩
    by_cases hji : j = i
    · subst hji; exact (hy.up hg).wpOp hi (fun w' hg' => ⟨fun _ => hg', H.up (hg.trans hg')⟩)
    · have := ready_mono hj hji
      rw [(H w1 hg).1] at this
      cases this
  | succ fuel ih =>
    intro listed a w hfree hc hd hr hy H w1 hg
    refine ⟨fun h => (by rw [h] at hr; cases hr), fun j hj => ?_⟩
    by_cases hji : j = i
    · subst hji; exact (hy.up hg).wpOp hi (fun w' hg' => ⟨fun _ => hg', H.up (hg.trans hg')⟩)
    · have h1 := (H w1 hg).2 j (ready_mono hj hji)
      obtain ⟨hjun, oj, hoj, hall⟩ := mem_ready.1 hj
      have hiun := (mem_ready.1 hr).1
      have hnot : ∀ e ∈ oj.after, Region.binds md e = true → e.on ≠ i := fun e he hb heq => by
        have h1 := hall e he hb
        rw [heq] at h1
        rcases Nat.lt_or_ge i listed.size with h' | h'
        · simp [h'] at hiun h1; rw [hiun] at h1; cases h1
        · simp [Array.getElem?_eq_none h'] at h1
      have hjd : j ∉ ds := fun hm => reach_not_ready hc (hd j hm hjun) hiun hj
      have h2 := wpOp_putG hoj (hfree j oj hoj hji hjun hnot) (fun cs b => hsel i oi cs b hi) (fun cs b => hsel j oj cs b hoj) hQ h1
      have hfree' : ∀ k ok, ops[k]? = some ok → k ≠ i → (listed.setIfInBounds j true).getD k true = false →
          (∀ e ∈ ok.after, Region.binds md e = true → e.on ≠ i) → oi.apart ops ok = true := fun k ok hk hki hun hno => by
        refine hfree k ok hk hki ?_ hno
        by_cases hjk : j = k
        · subst hjk; exact hjun
        · rw [getD_set_ne true hjk] at hun; exact hun
      have hd' : ∀ d ∈ ds, (listed.setIfInBounds j true).getD d true = false → reachB md ops i n d = true := fun d hm hun => by
        refine hd d hm ?_
        by_cases hjk : j = d
        · subst hjk; exact hjun
        · rw [getD_set_ne true hjk] at hun; exact hun
      refine wpOp_mono (fun a' w' h3 => ⟨h3.2.1, ih (listed.setIfInBounds j true) a' w' hfree' (hc.set hj) hd' (ready_mono hr (Ne.symm hji)) ((hy.up (hg.trans (h3.2.1 hjd))).of_same h3.1.1 h3.1.2) ?_⟩) h2
      rw [Array.setIfInBounds_comm _ _ hji]
      exact h3.2.2

/-- What yields in every world whatsoever is taken first wherever it may come up, behind a store too. -/
theorem wpK_any {i : Nat} {oi : Oper} {v : Value} (hi : ops[i]? = some oi) (hsel : ∀ (j : Nat) (o : Oper) cs b, ops[j]? = some o → o.op ≠ .select cs b)
    (hQ : ∀ c a w, Q (.panic c) (a.put oi.dst v) w → Q (.panic c) a w) :
    ∀ (fuel : Nat) (listed : Array Bool) (a : Act) (w : World),
      (∀ j oj, ops[j]? = some oj → j ≠ i → listed.getD j true = false → (∀ e ∈ oj.after, Region.binds md e = true → e.on ≠ i) → oi.apart ops oj = true) →
      i ∈ Region.ready md ops listed → Yields P ops oi v a →
      wpK P md ops Q ds fuel (listed.setIfInBounds i true) (a.put oi.dst v) w → wpK P md ops Q ds (fuel + 1) listed a w := by
  have HY : ∀ a w, Yields P ops oi v a → YG P ops oi v a w := fun a w hy => hy.imp (fun h => ⟨h.1, fun w1 _ => by rw [h.2 w1]; exact ⟨rfl, .refl _⟩⟩) id
  intro fuel
  induction fuel with
  | zero =>
    intro listed a w _ hr hy H w1 hg
    refine ⟨fun h => (by rw [h] at hr; cases hr), fun j hj => ?_⟩
    by_cases hji : j = i
    · subst hji; exact (HY a w1 hy).wpOp hi (fun w' hg' => ⟨fun _ => hg', H.up (hg.trans hg')⟩)
    · have := ready_mono hj hji
      rw [(H w1 hg).1] at this
      cases this
  | succ fuel ih =>
    intro listed a w hfree hr hy H w1 hg
    refine ⟨fun h => (by rw [h] at hr; cases hr), fun j hj => ?_⟩
    by_cases hji : j = i
    · subst hji; exact (HY a w1 hy).wpOp hi (fun w' hg' => ⟨fun _ => hg', H.up (hg.trans hg')⟩)
    · have h1 := (H w1 hg).2 j (ready_mono hj hji)
      obtain ⟨hjun, oj, hoj, hall⟩ := mem_ready.1 hj
      have hiun := (mem_ready.1 hr).1
      have hnot : ∀ e ∈ oj.after, Region.binds md e = true → e.on ≠ i := fun e he hb heq => by
        have h1 := hall e he hb
        rw [heq] at h1
        rcases Nat.lt_or_ge i listed.size with h' | h'
        · simp [h'] at hiun h1; rw [hiun] at h1; cases h1
        · simp [Array.getElem?_eq_none h'] at h1
      have h2 := wpOp_putG hoj (hfree j oj hoj hji hjun hnot) (fun cs b => hsel i oi cs b hi) (fun cs b => hsel j oj cs b hoj) hQ h1
      have hfree' : ∀ k ok, ops[k]? = some ok → k ≠ i → (listed.setIfInBounds j true).getD k true = false →
          (∀ e ∈ ok.after, Region.binds md e = true → e.on ≠ i) → oi.apart ops ok = true := fun k ok hk hki hun hno => by
        refine hfree k ok hk hki ?_ hno
        by_cases hjk : j = k
        · subst hjk; exact hjun
        · rw [getD_set_ne true hjk] at hun; exact hun
      refine wpOp_mono (fun a' w' h3 => ⟨h3.2.1, ih (listed.setIfInBounds j true) a' w' hfree' (ready_mono hr (Ne.symm hji)) (hy.of_same h3.1.1 h3.1.2) ?_⟩) h2
      rw [Array.setIfInBounds_comm _ _ hji]
      exact h3.2.2

/-! ### the steps, what has come up written out -/
theorem kstart {id n : Nat} {a : Act} {w : World} (l : Array Bool) (hm : P.follows .mixedOrders = true) (hn : ops.size = n) (hl : Array.replicate n false = l)
    (h : wpK P .any ops Q ds n l a w) : (Code.region id ops true).wp P Q a w := by
  subst hn
  subst hl
  exact wp_region_any hm (wpAny_of_K _ _ _ _ (h.up ((Gr.refl w).drew)))
def ktakeB (md : Region.Mode) (ops : Array Oper) (ds : List Nat) (l l' : Array Bool) (i : Nat) : Bool :=
  Region.noSelect ops && Region.free md ops l i && (Region.ready md ops l).contains i && closedB md ops l && lastB md ops l ds i && (l.setIfInBounds i true == l')
theorem ktake {i : Nat} {N : Option Tmp} {oi : Oper} {v : Value} {fuel : Nat} {l : Array Bool} {a : Act} {w : World} (l' : Array Bool) (hi : ops[i]? = some oi) (hN : oi.dst = N) (hc : ktakeB md ops ds l l' i = true)
    (hQ : ∀ c a w, Q (.panic c) (a.put oi.dst v) w → Q (.panic c) a w) (hy : YG P ops oi v a w) {a' : Act} (ha : a.put N v = a')
    (h : wpK P md ops Q ds fuel l' a' w) : wpK P md ops Q ds (fuel + 1) l a w := by
  subst ha
  subst hN
  simp only [ktakeB, Bool.and_eq_true, beq_iff_eq] at hc
  obtain ⟨⟨⟨⟨⟨h1, h2⟩, h3⟩, h4⟩, h5⟩, h6⟩ := hc
  subst h6
  exact wpK_first hi (Region.noSelect_spec h1) hQ ops.size fuel l a w (Region.free_spec hi h2) (closedB_spec h4)
    (fun d hm hun => by have := List.all_eq_true.1 h5 d hm; rw [hun] at this; simpa using this) (by simpa using h3) hy h
def kanyB (md : Region.Mode) (ops : Array Oper) (l l' : Array Bool) (i : Nat) : Bool :=
  Region.noSelect ops && Region.free md ops l i && (Region.ready md ops l).contains i && (l.setIfInBounds i true == l')
theorem kpure {i : Nat} {N : Option Tmp} {oi : Oper} {v : Value} {fuel : Nat} {l : Array Bool} {a : Act} {w : World} (l' : Array Bool) (hi : ops[i]? = some oi) (hN : oi.dst = N) (hc : kanyB md ops l l' i = true)
    (hQ : ∀ c a w, Q (.panic c) (a.put oi.dst v) w → Q (.panic c) a w) (hy : Yields P ops oi v a) {a' : Act} (ha : a.put N v = a')
    (h : wpK P md ops Q ds fuel l' a' w) : wpK P md ops Q ds (fuel + 1) l a w := by
  subst ha
  subst hN
  simp only [kanyB, Bool.and_eq_true, beq_iff_eq] at hc
  obtain ⟨⟨⟨h1, h2⟩, h3⟩, h6⟩ := hc
  subst h6
  exact wpK_any hi (Region.noSelect_spec h1) hQ fuel l a w (Region.free_spec hi h2) (by simpa using h3) hy h
def kreadyB (md : Region.Mode) (ops : Array Oper) (l l' : Array Bool) (i : Nat) : Bool := (Region.ready md ops l == [i]) && (l.setIfInBounds i true == l')
/-- One operation alone may come up now: it is run, in a world that has grown; of those of ds nothing is to be shown behind it. -/
theorem kone {i : Nat} {N : Option Tmp} {oi : Oper} {fuel : Nat} {l : Array Bool} {a : Act} {w : World} (l' : Array Bool) (hi : ops[i]? = some oi) (hN : oi.dst = N) (hc : kreadyB md ops l l' i = true)
    (h : ∀ w1, Gr w w1 → ∀ K : Act → World → Prop, (∀ a' w', (i ∉ ds → Gr w1 w') → wpK P md ops Q ds fuel l' a' w' → K a' w') → if Region.wanted oi (yielded ops a.tmps) = true then Oper.wp P oi a w1 K Q else K (a.put N undef) w1) :
    wpK P md ops Q ds (fuel + 1) l a w := by
  subst hN
  simp only [kreadyB, Bool.and_eq_true, beq_iff_eq] at hc
  obtain ⟨h1, h2⟩ := hc
  subst h2
  intro w1 hg
  refine ⟨fun h0 => (by rw [h1] at h0; cases h0), fun j hj => ?_⟩
  rw [h1] at hj
  obtain rfl := List.mem_singleton.1 hj
  exact wpOp_step hi (fun K' hK => h w1 hg K' (fun a' w' h2 h3 => hK a' w' ⟨h2, h3⟩))
theorem kdone {l : Array Bool} {a : Act} {w : World} {n : Nat} (hr : (Region.ready md ops l == []) = true) (h : ∀ w1, Gr w w1 → Q .normal a w1) : wpK P md ops Q ds n l a w := by
  have hr : Region.ready md ops l = [] := by simpa using hr
  cases n with
  | zero => exact fun w1 hg => ⟨hr, h w1 hg⟩
  | succ n => exact fun w1 hg => ⟨fun _ => h w1 hg, by rw [hr]; simp⟩
end

/-! ### the blocks of the call's own -/
/-- What lies in memory that the call made (behind w0): blocks, each with its contents. -/
structure Own (w0 : World) (L : List (Nat × Obj)) (w : World) : Prop where
  below : Below w0.heap.size w0 w
  mem : ∀ p ∈ L, w.heap[p.1]? = some p.2 ∧ w0.heap.size ≤ p.1
  nd : (L.map (·.1)).Nodup
theorem Own.start (w : World) : Own w [] w := ⟨Below.refl _ _, by simp, by simp⟩
theorem Own.up {w0 w w1 : World} {L : List (Nat × Obj)} (h : Own w0 L w) (hg : Gr w w1) : Own w0 L w1 :=
  ⟨h.below.trans (Below.mono hg h.below.size), fun p hp => by
    have := h.mem p hp
    exact ⟨(hg.block p.1 ((Array.getElem?_eq_some_iff.1 this.1).1)).trans this.1, this.2⟩, h.nd⟩
theorem Own.drew {w0 w : World} {L : List (Nat × Obj)} (h : Own w0 L w) : Own w0 L w.drew := ⟨h.below.drew, h.mem, h.nd⟩
theorem Own.drewN {w0 w : World} {L : List (Nat × Obj)} (h : Own w0 L w) (n : Nat) : Own w0 L (w.drewN n) :=
  ⟨⟨h.below.os, h.below.tape, h.below.output, h.below.size, h.below.block⟩, h.mem, h.nd⟩
theorem Own.blk {w0 w : World} {L : List (Nat × Obj)} (h : Own w0 L w) (k : Nat) {g : Nat} {o : Obj} (hk : L[k]? = some (g, o)) : w.heap[g]? = some o := (h.mem _ (List.mem_of_getElem? hk)).1
theorem Own.lt {w0 w : World} {L : List (Nat × Obj)} (h : Own w0 L w) (k : Nat) {g : Nat} {o : Obj} (hk : L[k]? = some (g, o)) : g < w.heap.size := (Array.getElem?_eq_some_iff.1 (h.blk k hk)).1
theorem Own.ge {w0 w : World} {L : List (Nat × Obj)} (h : Own w0 L w) (k : Nat) {g : Nat} {o : Obj} (hk : L[k]? = some (g, o)) : w0.heap.size ≤ g := (h.mem _ (List.mem_of_getElem? hk)).2
theorem Own.cell {w0 w : World} {L : List (Nat × Obj)} (h : Own w0 L w) (k : Nat) {g : Nat} {cs : Array Value} {t : TypeId} (hk : L[k]? = some (g, .cells cs t (0, 0))) (j : Nat) : w.cell? ⟨g, j, none⟩ = cs[j]? := by
  have := h.blk k hk
  simp [World.cell?, this]
theorem Own.frozen {w0 w : World} {L : List (Nat × Obj)} (h : Own w0 L w) (k : Nat) {g : Nat} {cs : Array Value} {t : TypeId} (hk : L[k]? = some (g, .cells cs t (0, 0))) (j : Nat) : w.frozen? ⟨g, j, none⟩ = false := by
  have := h.blk k hk
  simp [World.frozen?, this]
theorem Own.alloc {w0 w : World} {L : List (Nat × Obj)} (h : Own w0 L w) (o : Obj) : Own w0 ((w.heap.size, o) :: L) (w.alloc o) :=
  ⟨h.below.alloc h.below.size o, fun p hp => by
    rcases List.mem_cons.1 hp with rfl | hp
    · exact ⟨by show (w.heap.push o)[w.heap.size]? = _; simp, h.below.size⟩
    · have := h.mem p hp
      exact ⟨(Below.heap_alloc w o p.1 ((Array.getElem?_eq_some_iff.1 this.1).1)).trans this.1, this.2⟩,
   by
    simp only [List.map_cons, List.nodup_cons]
    refine ⟨fun hm => ?_, h.nd⟩
    obtain ⟨p, hp, he⟩ := List.mem_map.1 hm
    have := (Array.getElem?_eq_some_iff.1 (h.mem p hp).1).1
    omega⟩
theorem Own.alloc' {w0 w : World} {L : List (Nat × Obj)} (h : Own w0 L w) (o : Obj) {g : Nat} (hg : w.heap.size = g) : Own w0 ((g, o) :: L) (w.alloc o) := hg ▸ h.alloc o
/-- A block that is known to lie behind w0 and to be another one is taken up. -/
theorem Own.take {w0 w : World} {L : List (Nat × Obj)} (h : Own w0 L w) {g : Nat} {o : Obj} (hb : w.heap[g]? = some o) (hge : w0.heap.size ≤ g) (hne : g ∉ L.map (·.1)) : Own w0 ((g, o) :: L) w :=
  ⟨h.below, fun p hp => by
    rcases List.mem_cons.1 hp with rfl | hp
    · exact ⟨hb, hge⟩
    · exact h.mem p hp, List.nodup_cons.2 ⟨hne, h.nd⟩⟩
theorem Own.drop {w0 w : World} {L : List (Nat × Obj)} (h : Own w0 L w) (L' : List (Nat × Obj)) (hs : L'.Sublist L) : Own w0 L' w :=
  ⟨h.below, fun p hp => h.mem p (hs.subset hp), (hs.map _).nodup h.nd⟩
theorem nodup_get {α : Type} {l : List α} (h : l.Nodup) {i j : Nat} {x : α} (hi : l[i]? = some x) (hj : l[j]? = some x) : i = j := by
  obtain ⟨h1, e1⟩ := List.getElem?_eq_some_iff.1 hi
  obtain ⟨h2, e2⟩ := List.getElem?_eq_some_iff.1 hj
  exact (List.getElem_inj h).1 (e1.trans e2.symm)
theorem Own.modify {w0 w : World} {L : List (Nat × Obj)} (h : Own w0 L w) (k : Nat) {g : Nat} {o o' : Obj} (hk : L[k]? = some (g, o)) {w1 : World}
    (hs : w1.heap.size = w.heap.size) (hos : w1.os = w.os) (htp : w1.tape = w.tape) (hou : w1.output = w.output) (hb : w1.heap[g]? = some o') (hne : ∀ i, i ≠ g → w1.heap[i]? = w.heap[i]?) : Own w0 (L.set k (g, o')) w1 := by
  have hge := h.ge k hk
  refine ⟨h.below.trans ⟨hos, htp, hou, by omega, fun i hi => hne i (by omega)⟩, fun p hp => ?_, ?_⟩
  · obtain ⟨i, hi⟩ := List.getElem?_of_mem hp
    rw [List.getElem?_set] at hi
    split at hi
    · split at hi
      · obtain rfl := Option.some.inj hi
        exact ⟨hb, hge⟩
      · cases hi
    · rename_i hik
      have hpm := h.mem p (List.mem_of_getElem? hi)
      refine ⟨(hne p.1 (fun he => hik ?_)).trans hpm.1, hpm.2⟩
      refine nodup_get h.nd (x := g) (by rw [List.getElem?_map, hk]; rfl) (by rw [List.getElem?_map, hi]; exact congrArg some he)
  · have : (L.set k (g, o')).map (·.1) = L.map (·.1) := by
      rw [List.map_set]
      refine List.ext_getElem? (fun i => ?_)
      rw [List.getElem?_set]
      split
      · rename_i hki
        subst hki
        rw [List.getElem?_map, hk]
        have := (List.getElem?_eq_some_iff.1 hk).1
        simp [this]
      · rfl
    rw [this]
    exact h.nd
theorem Own.set {w0 w : World} {L : List (Nat × Obj)} (h : Own w0 L w) (k : Nat) {g : Nat} {cs : Array Value} {t : TypeId} {fr : Nat × Nat} (hk : L[k]? = some (g, .cells cs t fr)) (j : Nat) (v : Value) :
    Own w0 (L.set k (g, .cells (cs.setIfInBounds j v) t fr)) (w.setCell ⟨g, j, none⟩ v) :=
  h.modify k hk (by simp [World.setCell]) rfl rfl rfl (by simp [World.setCell, Array.getElem?_modify, h.blk k hk]) (fun i hi => Below.heap_setCell w _ _ _ hi)
/-- The same, what comes out written out. -/
theorem Own.set' {w0 w : World} {L L' : List (Nat × Obj)} (h : Own w0 L w) (k : Nat) {g : Nat} {cs : Array Value} {t : TypeId} {fr : Nat × Nat} (hk : L[k]? = some (g, .cells cs t fr)) (j : Nat) (v : Value)
    (hL : L.set k (g, .cells (cs.setIfInBounds j v) t fr) = L') : Own w0 L' (w.setCell ⟨g, j, none⟩ v) := hL ▸ h.set k hk j v

section
variable {P : Program}
theorem RunG_value {oi : Oper} {a : Act} {w : World} {v : Value} (h : (execOp a.eval oi).run P w = .ok (.value v) w) : RunG P w v ((execOp a.eval oi).run P w) := by rw [h]; exact ⟨rfl, .refl _⟩
theorem callFunc_enters {f : FuncId} {fn : Func} (hf : P.funcs[f]? = some fn) (hname : (fn.name == "runtime.NumGoroutine") = false) (hb : fn.body.isSome = true) (args : Array Value) (w : World) : (callFunc f args).run P w = .ok (.enter f args) w := by
  have h1 : fn.name ≠ "runtime.NumGoroutine" := by simpa using hname
  obtain ⟨c, hc⟩ := Option.isSome_iff_exists.1 hb
  simp [callFunc, hf, h1, hc]
theorem RunG_call {oi : Oper} {a : Act} {w : World} {v : Value} {f : FuncId} {fn : Func} {asL : List Operand} {ts : Array TypeId} (hf : P.funcs[f]? = some fn) (hname : (fn.name == "runtime.NumGoroutine") = false) (hb : fn.body.isSome = true) (al : List Value)
    (hop : oi.op = .call { callee := .value (.func f), args := asL.toArray, argTypes := ts }) (hargs : asL.map a.eval = al)
    (h : Calls P f al.toArray w fun e w'' => e = .returned v ∧ Below w.heap.size w w'') : RunG P w v ((execOp a.eval oi).run P w) := by
  have he := callFunc_enters hf hname hb al.toArray w
  have : (execOp a.eval oi).run P w = .ok (.enter f al.toArray) w := by
    unfold execOp
    simp [hop, resolve, Deferred.ofValue, invoke, Act.eval]
    rw [show (List.map (Act.eval a) asL) = al from hargs, he]
  rw [this]
  exact ⟨.refl _, h⟩
end
end Go.Proofs.Ytfghjahmnjghgaa

import Derived.Orders
import Derived.Below
import Derived.Deep.Draws
import Derived.Deep.RegionHeld3
import Derived.Test.YtdmpnogjpgoaaaaMb
import Derived.Deep.LoopGhost
import Derived.Laws.Cover3
namespace Go.Proofs.Ytdmpnogjpgoaaaa
open Go.RowKit
/-- Only new blocks. -/
def Gr (w w1 : World) : Prop := Below w.heap.size w w1
theorem Gr.refl (w : World) : Gr w w := Below.refl _ _
theorem Gr.trans {a b c : World} (h : Gr a b) (k : Gr b c) : Gr a c := Below.trans h (Below.mono k (Below.size h))
theorem Gr.drew {a b : World} (h : Gr a b) : Gr a b.drew := Below.drew h

section
variable {P : Program} {ops : Array Oper} {Q : Exit → Act → World → Prop} {md : Region.Mode} {ds : List Nat}

/-- A run that gives v, and makes memory at most. -/
def RunG (P : Program) (w : World) (v : Value) : Result Next → Prop
  | .ok (.value u) w' => u = v ∧ Gr w w'
  | .ok (.enter f args) w' => Gr w w' ∧ Calls P f args w' fun e w'' => e = .returned v ∧ Gr w w''
  | _ => False
/-- An operation that gives v, in every world that has grown out of w. -/
def YG (P : Program) (ops : Array Oper) (o : Oper) (v : Value) (a : Act) (w : World) : Prop :=
  (Region.wanted o (yielded ops a.tmps) = true ∧ ∀ w1, Gr w w1 → RunG P w1 v ((execOp a.eval o).run P w1)) ∨
  (Region.wanted o (yielded ops a.tmps) = false ∧ v = undef)
theorem YG.up {o : Oper} {v : Value} {a : Act} {w w1 : World} (h : YG P ops o v a w) (hg : Gr w w1) : YG P ops o v a w1 :=
  h.imp (fun h => ⟨h.1, fun w2 h2 => h.2 w2 (hg.trans h2)⟩) id
theorem YG.of_same {o : Oper} {v : Value} {a a' : Act} {w : World} (hy : YG P ops o v a w) (he : execOp a'.eval o = execOp a.eval o)
    (hw : Region.wanted o (yielded ops a'.tmps) = Region.wanted o (yielded ops a.tmps)) : YG P ops o v a' w := by
  unfold YG at *
  rw [he, hw]
  exact hy
theorem RunG.wp {o : Oper} {v : Value} {a : Act} {w : World} {K : Act → World → Prop} (h : RunG P w v ((execOp a.eval o).run P w))
    (hK : ∀ w', Gr w w' → K (a.put o.dst v) w') : o.wp P a w K Q := by
  unfold Oper.wp
  generalize (execOp a.eval o).run P w = r at *
  cases r with
  | ok n w' =>
    cases n <;> simp only [RunG] at h
    case value u => obtain ⟨rfl, hg⟩ := h; exact hK _ hg
    case enter f args =>
      refine Calls.mono h.2 fun e w'' he => ?_
      obtain ⟨rfl, hg⟩ := he
      exact hK _ hg
  | halt x w' => exact h.elim
theorem YG.wpOp {i : Nat} {o : Oper} {v : Value} {a : Act} {w : World} (hi : ops[i]? = some o) (hy : YG P ops o v a w)
    {K : Act → World → Prop} (h : ∀ w', Gr w w' → K (a.put o.dst v) w') : Go.wpOp P ops Q i K a w := by
  unfold Go.wpOp
  simp only [hi]
  rcases hy with ⟨hw, hv⟩ | ⟨hw, rfl⟩
  · simp only [hw, if_true]; exact .inl ((hv w (.refl w)).wp h)
  · simp only [hw, Bool.false_eq_true, if_false]; exact h _ (.refl w)

/-- An operation j that has nothing to do with i may as well run ahead of it. -/
theorem wpOp_putG {j : Nat} {oi oj : Oper} {v : Value} (hj : ops[j]? = some oj) (hap : oi.apart ops oj = true)
    (hsi : ∀ cs b, oi.op ≠ .select cs b) (hsj : ∀ cs b, oj.op ≠ .select cs b)
    (hQ : ∀ c a w, Q (.panic c) (a.put oi.dst v) w → Q (.panic c) a w) {K : Act → World → Prop} {a : Act} {w : World}
    (h : wpOp P ops Q j K (a.put oi.dst v) w) :
    wpOp P ops Q j (fun a' w' => (execOp a'.eval oi = execOp a.eval oi ∧ Region.wanted oi (yielded ops a'.tmps) = Region.wanted oi (yielded ops a.tmps)) ∧ K (a'.put oi.dst v) w') a w := by
  obtain ⟨h1, h2, h3⟩ := Oper.apart_spec hap
  have keep : ∀ (a : Act) u, execOp (a.put oj.dst u).eval oi = execOp a.eval oi ∧ Region.wanted oi (yielded ops (a.put oj.dst u).tmps) = Region.wanted oi (yielded ops a.tmps) := fun a u =>
    ⟨execOp_put oi hsi a oj.dst u h3, wanted_put oi a oj.dst u h3⟩
  unfold wpOp at *
  simp only [hj] at *
  rw [wanted_put oj a oi.dst v h1] at h
  split
  · rename_i hw
    simp only [hw, if_true] at h
    rcases h with h | ⟨hasks, hlets⟩
    case inr => exact .inr ⟨by unfold Oper.asks at *; rw [execOp_put oj hsj a oi.dst v h1] at hasks; exact hasks, hlets⟩
    refine .inl ?_
    unfold Oper.wp at *
    rw [execOp_put oj hsj a oi.dst v h1] at h
    generalize (execOp a.eval oj).run P w = r at *
    cases r with
    | ok n w' =>
      cases n <;> simp only [Oper.upon] at h ⊢
      case value u => exact ⟨keep a u, by rw [← Act.put_comm a v u h2]; exact h⟩
      case skip => exact ⟨keep a _, by rw [← Act.put_comm a v undef h2]; exact h⟩
      case defer d =>
        refine ⟨keep { a with defers := d :: a.defers } _, ?_⟩
        rw [← Act.put_comm _ v undef h2, ← Act.put_defers]
        exact h
      case enter f args =>
        refine Calls.mono h fun e w'' he => ?_
        cases e with
        | returned u => exact ⟨keep a u, by rw [← Act.put_comm a v u h2]; exact he⟩
        | panicked c => exact hQ _ _ _ he
        | outgrown => exact he
      case row row args => exact Rows.mono h fun u w'' he => ⟨keep a u, by rw [← Act.put_comm a v u h2]; exact he⟩
    | halt x w' =>
      cases x <;> simp only [Oper.upon] at h ⊢
      case panic u => exact hQ _ _ _ h
  · rename_i hw
    simp only [hw] at h
    exact ⟨keep a _, by rw [← Act.put_comm a v undef h2]; exact h⟩

/-! ### reachability, closed lists (as in the print's words for a last store) -/
def reachB (md : Region.Mode) (ops : Array Oper) (i : Nat) : Nat → Nat → Bool
  | 0, _ => false
  | fuel + 1, d => match ops[d]? with
    | some o => o.after.any fun e => Region.binds md e && (e.on == i || reachB md ops i fuel e.on)
    | none => false
def closedB (md : Region.Mode) (ops : Array Oper) (listed : Array Bool) : Bool :=
  (List.range ops.size).all fun j => !listed.getD j false || match ops[j]? with
    | some o => o.after.all fun e => !Region.binds md e || listed.getD e.on false
    | none => true
def lastB (md : Region.Mode) (ops : Array Oper) (listed : Array Bool) (ds : List Nat) (i : Nat) : Bool :=
  ds.all fun d => listed.getD d true || reachB md ops i ops.size d
def LClosed (md : Region.Mode) (ops : Array Oper) (listed : Array Bool) : Prop :=
  ∀ j oj, ops[j]? = some oj → listed.getD j false = true → ∀ e ∈ oj.after, Region.binds md e = true → listed.getD e.on false = true
theorem closedB_spec {listed : Array Bool} (h : closedB md ops listed = true) : LClosed md ops listed := by
  intro j oj hj hl e he hb
  have hlt : j < ops.size := (Array.getElem?_eq_some_iff.1 hj).1
  have h1 := List.all_eq_true.1 h j (List.mem_range.2 hlt)
  simp only [hl, hj, Bool.not_true, Bool.false_or] at h1
  have h2 := Array.all_eq_true_iff_forall_mem.1 h1 e he
  simpa [hb] using h2
theorem LClosed.set {listed : Array Bool} {i : Nat} (h : LClosed md ops listed) (hi : i ∈ Region.ready md ops listed) : LClosed md ops (listed.setIfInBounds i true) := by
  obtain ⟨_, oi, hoi, hall⟩ := mem_ready.1 hi
  intro j oj hj hl e he hb
  by_cases hij : i = j
  · subst hij
    have : oj = oi := Option.some.inj (hj.symm.trans hoi)
    subst this
    exact getD_set_true (hall e he hb)
  · rw [getD_set_ne false hij] at hl
    exact getD_set_true (h j oj hj hl e he hb)
theorem reach_listed {listed : Array Bool} {i : Nat} (hc : LClosed md ops listed) : ∀ (fuel d : Nat), reachB md ops i fuel d = true → listed.getD d false = true → listed.getD i false = true
  | 0, _, h, _ => by simp [reachB] at h
  | fuel + 1, d, h, hl => by
    unfold reachB at h
    cases ho : ops[d]? with
    | none => rw [ho] at h; simp at h
    | some o =>
      rw [ho] at h
      obtain ⟨e, he, h1⟩ := Array.any_eq_true'.1 h
      simp only [Bool.and_eq_true, Bool.or_eq_true, beq_iff_eq] at h1
      have hle := hc d o ho hl e he h1.1
      rcases h1.2 with h2 | h2
      · rw [← h2]; exact hle
      · exact reach_listed hc fuel e.on h2 hle
theorem reach_not_ready {listed : Array Bool} {i d fuel : Nat} (hc : LClosed md ops listed) (hr : reachB md ops i fuel d = true) (hun : listed.getD i true = false) : d ∉ Region.ready md ops listed := by
  intro hd
  obtain ⟨_, o, ho, hall⟩ := mem_ready.1 hd
  have hi : listed.getD i false = true := by
    cases fuel with
    | zero => simp [reachB] at hr
    | succ n =>
      unfold reachB at hr
      rw [ho] at hr
      obtain ⟨e, he, h1⟩ := Array.any_eq_true'.1 hr
      simp only [Bool.and_eq_true, Bool.or_eq_true, beq_iff_eq] at h1
      have hle := hall e he h1.1
      rcases h1.2 with h2 | h2
      · rw [← h2]; exact hle
      · exact reach_listed hc n e.on h2 hle
  rcases Nat.lt_or_ge i listed.size with h' | h'
  · simp [h'] at hun hi
    rw [hun] at hi
    cases hi
  · simp [Array.getElem?_eq_none h'] at hun

/-- Whatever order is picked from here on, in whatever world that has grown out of w; behind every operation but those of ds the world has only grown. -/
def wpK (P : Program) (md : Region.Mode) (ops : Array Oper) (Q : Exit → Act → World → Prop) (ds : List Nat) : Nat → Array Bool → Act → World → Prop
  | 0, l, a, w => ∀ w1, Gr w w1 → Region.ready md ops l = [] ∧ Q .normal a w1
  | fuel + 1, l, a, w => ∀ w1, Gr w w1 → (Region.ready md ops l = [] → Q .normal a w1) ∧
    ∀ i ∈ Region.ready md ops l, wpOp P ops Q i (fun a' w' => (i ∉ ds → Gr w1 w') ∧ wpK P md ops Q ds fuel (l.setIfInBounds i true) a' w') a w1
theorem wpK.up : ∀ {fuel : Nat} {l : Array Bool} {a : Act} {w w1 : World}, wpK P md ops Q ds fuel l a w → Gr w w1 → wpK P md ops Q ds fuel l a w1
  | 0, _, _, _, _, h, hg => fun w2 h2 => h w2 (hg.trans h2)
  | _ + 1, _, _, _, _, h, hg => fun w2 h2 => h w2 (hg.trans h2)
theorem wpAny_of_K : ∀ (fuel : Nat) (l : Array Bool) (a : Act) (w : World), wpK P md ops Q ds fuel l a w → wpAny P md ops Q fuel l a w
  | 0, _, _, w, h => h w (.refl w)
  | fuel + 1, _, _, w, h => ⟨(h w (.refl w)).1, fun i hi => wpOp_mono (fun a' w' h' => wpAny_of_K fuel _ a' w' h'.2) ((h w (.refl w)).2 i hi)⟩

theorem wpK_first {i : Nat} {oi : Oper} {v : Value} (hi : ops[i]? = some oi) (hsel : ∀ (j : Nat) (o : Oper) cs b, ops[j]? = some o → o.op ≠ .select cs b)
    (hQ : ∀ c a w, Q (.panic c) (a.put oi.dst v) w → Q (.panic c) a w) (n : Nat) :
    ∀ (fuel : Nat) (listed : Array Bool) (a : Act) (w : World),
      (∀ j oj, ops[j]? = some oj → j ≠ i → listed.getD j true = false → (∀ e ∈ oj.after, Region.binds md e = true → e.on ≠ i) → oi.apart ops oj = true) →
      LClosed md ops listed → (∀ d ∈ ds, listed.getD d true = false → reachB md ops i n d = true) →
      i ∈ Region.ready md ops listed → YG P ops oi v a w →
      wpK P md ops Q ds fuel (listed.setIfInBounds i true) (a.put oi.dst v) w → wpK P md ops Q ds (fuel + 1) listed a w := by
  intro fuel
  induction fuel with
  | zero =>
    intro listed a w _ _ _ hr hy H w1 hg
    refine ⟨fun h => (by rw [h] at hr; cases hr), fun j hj => ?_⟩
    by_cases hji : j = i
    · subst hji; exact (hy.up hg).wpOp hi (fun w' hg' => ⟨fun _ => hg', H.up (hg.trans hg')⟩)
    · have := ready_mono hj hji
      rw [(H w1 hg).1] at this
      cases this
  | succ fuel ih =>
    intro listed a w hfree hc hd hr hy H w1 hg
    refine ⟨fun h => (by rw [h] at hr; cases hr), fun j hj => ?_⟩
    by_cases hji : j = i
    · subst hji; exact (hy.up hg).wpOp hi (fun w' hg' => ⟨fun _ => hg', H.up (hg.trans hg')⟩)
    · have h1 := (H w1 hg).2 j (ready_mono hj hji)
      obtain ⟨hjun, oj, hoj, hall⟩ := mem_ready.1 hj
      have hiun := (mem_ready.1 hr).1
      have hnot : ∀ e ∈ oj.after, Region.binds md e = true → e.on ≠ i := fun e he hb heq => by
        have h1 := hall e he hb
        rw [heq] at h1
        rcases Nat.lt_or_ge i listed.size with h' | h'
        · simp [h'] at hiun h1; rw [hiun] at h1; cases h1
        · simp [Array.getElem?_eq_none h'] at h1
      have hjd : j ∉ ds := fun hm => reach_not_ready hc (hd j hm hjun) hiun hj
      have h2 := wpOp_putG hoj (hfree j oj hoj hji hjun hnot) (fun cs b => hsel i oi cs b hi) (fun cs b => hsel j oj cs b hoj) hQ h1
      have hfree' : ∀ k ok, ops[k]? = some ok → k ≠ i → (listed.setIfInBounds j true).getD k true = false →
          (∀ e ∈ ok.after, Region.binds md e = true → e.on ≠ i) → oi.apart ops ok = true := fun k ok hk hki hun hno => by
        refine hfree k ok hk hki ?_ hno
        by_cases hjk : j = k
        · subst hjk; exact hjun
        · rw [getD_set_ne true hjk] at hun; exact hun
      have hd' : ∀ d ∈ ds, (listed.setIfInBounds j true).getD d true = false → reachB md ops i n d = true := fun d hm hun => by
        refine hd d hm ?_
        by_cases hjk : j = d
        · subst hjk; exact hjun
        · rw [getD_set_ne true hjk] at hun; exact hun
      refine wpOp_mono (fun a' w' h3 => ⟨h3.2.1, ih (listed.setIfInBounds j true) a' w' hfree' (hc.set hj) hd' (ready_mono hr (Ne.symm hji)) ((hy.up (hg.trans (h3.2.1 hjd))).of_same h3.1.1 h3.1.2) ?_⟩) h2
      rw [Array.setIfInBounds_comm _ _ hji]
      exact h3.2.2

/-- What yields in every world whatsoever is taken first wherever it may come up, behind a store too. -/
theorem wpK_any {i : Nat} {oi : Oper} {v : Value} (hi : ops[i]? = some oi) (hsel : ∀ (j : Nat) (o : Oper) cs b, ops[j]? = some o → o.op ≠ .select cs b)
    (hQ : ∀ c a w, Q (.panic c) (a.put oi.dst v) w → Q (.panic c) a w) :
    ∀ (fuel : Nat) (listed : Array Bool) (a : Act) (w : World),
      (∀ j oj, ops[j]? = some oj → j ≠ i → listed.getD j true = false → (∀ e ∈ oj.after, Region.binds md e = true → e.on ≠ i) → oi.apart ops oj = true) →
      i ∈ Region.ready md ops listed → Yields P ops oi v a →
      wpK P md ops Q ds fuel (listed.setIfInBounds i true) (a.put oi.dst v) w → wpK P md ops Q ds (fuel + 1) listed a w := by
  have HY : ∀ a w, Yields P ops oi v a → YG P ops oi v a w := fun a w hy => hy.imp (fun h => ⟨h.1, fun w1 _ => by rw [h.2 w1]; exact ⟨rfl, .refl _⟩⟩) id
  intro fuel
  induction fuel with
  | zero =>
    intro listed a w _ hr hy H w1 hg
    refine ⟨fun h => (by rw [h] at hr; cases hr), fun j hj => ?_⟩
    by_cases hji : j = i
    · subst hji; exact (HY a w1 hy).wpOp hi (fun w' hg' => ⟨fun _ => hg', H.up (hg.trans hg')⟩)
    · have := ready_mono hj hji
      rw [(H w1 hg).1] at this
      cases this
  | succ fuel ih =>
    intro listed a w hfree hr hy H w1 hg
    refine ⟨fun h => (by rw [h] at hr; cases hr), fun j hj => ?_⟩
    by_cases hji : j = i
    · subst hji; exact (HY a w1 hy).wpOp hi (fun w' hg' => ⟨fun _ => hg', H.up (hg.trans hg')⟩)
    · have h1 := (H w1 hg).2 j (ready_mono hj hji)
      obtain ⟨hjun, oj, hoj, hall⟩ := mem_ready.1 hj
      have hiun := (mem_ready.1 hr).1
      have hnot : ∀ e ∈ oj.after, Region.binds md e = true → e.on ≠ i := fun e he hb heq => by
        have h1 := hall e he hb
        rw [heq] at h1
        rcases Nat.lt_or_ge i listed.size with h' | h'
        · simp [h'] at hiun h1; rw [hiun] at h1; cases h1
        · simp [Array.getElem?_eq_none h'] at h1
      have h2 := wpOp_putG hoj (hfree j oj hoj hji hjun hnot) (fun cs b => hsel i oi cs b hi) (fun cs b => hsel j oj cs b hoj) hQ h1
      have hfree' : ∀ k ok, ops[k]? = some ok → k ≠ i → (listed.setIfInBounds j true).getD k true = false →
          (∀ e ∈ ok.after, Region.binds md e = true → e.on ≠ i) → oi.apart ops ok = true := fun k ok hk hki hun hno => by
        refine hfree k ok hk hki ?_ hno
        by_cases hjk : j = k
        · subst hjk; exact hjun
        · rw [getD_set_ne true hjk] at hun; exact hun
      refine wpOp_mono (fun a' w' h3 => ⟨h3.2.1, ih (listed.setIfInBounds j true) a' w' hfree' (ready_mono hr (Ne.symm hji)) (hy.of_same h3.1.1 h3.1.2) ?_⟩) h2
      rw [Array.setIfInBounds_comm _ _ hji]
      exact h3.2.2

/-! ### the steps, what has come up written out -/
theorem kstart {id n : Nat} {a : Act} {w : World} (l : Array Bool) (hm : P.follows .mixedOrders = true) (hn : ops.size = n) (hl : Array.replicate n false = l)
    (h : wpK P .any ops Q ds n l a w) : (Code.region id ops true).wp P Q a w := by
  subst hn
  subst hl
  exact wp_region_any hm (wpAny_of_K _ _ _ _ (h.up ((Gr.refl w).drew)))
def ktakeB (md : Region.Mode) (ops : Array Oper) (ds : List Nat) (l l' : Array Bool) (i : Nat) : Bool :=
  Region.noSelect ops && Region.free md ops l i && (Region.ready md ops l).contains i && closedB md ops l && lastB md ops l ds i && (l.setIfInBounds i true == l')
theorem ktake {i : Nat} {N : Option Tmp} {oi : Oper} {v : Value} {fuel : Nat} {l : Array Bool} {a : Act} {w : World} (l' : Array Bool) (hi : ops[i]? = some oi) (hN : oi.dst = N) (hc : ktakeB md ops ds l l' i = true)
    (hQ : ∀ c a w, Q (.panic c) (a.put oi.dst v) w → Q (.panic c) a w) (hy : YG P ops oi v a w) {a' : Act} (ha : a.put N v = a')
    (h : wpK P md ops Q ds fuel l' a' w) : wpK P md ops Q ds (fuel + 1) l a w := by
  subst ha
  subst hN
  simp only [ktakeB, Bool.and_eq_true, beq_iff_eq] at hc
  obtain ⟨⟨⟨⟨⟨h1, h2⟩, h3⟩, h4⟩, h5⟩, h6⟩ := hc
  subst h6
  exact wpK_first hi (Region.noSelect_spec h1) hQ ops.size fuel l a w (Region.free_spec hi h2) (closedB_spec h4)
    (fun d hm hun => by have := List.all_eq_true.1 h5 d hm; rw [hun] at this; simpa using this) (by simpa using h3) hy h
def kanyB (md : Region.Mode) (ops : Array Oper) (l l' : Array Bool) (i : Nat) : Bool :=
  Region.noSelect ops && Region.free md ops l i && (Region.ready md ops l).contains i && (l.setIfInBounds i true == l')
theorem kpure {i : Nat} {N : Option Tmp} {oi : Oper} {v : Value} {fuel : Nat} {l : Array Bool} {a : Act} {w : World} (l' : Array Bool) (hi : ops[i]? = some oi) (hN : oi.dst = N) (hc : kanyB md ops l l' i = true)
    (hQ : ∀ c a w, Q (.panic c) (a.put oi.dst v) w → Q (.panic c) a w) (hy : Yields P ops oi v a) {a' : Act} (ha : a.put N v = a')
    (h : wpK P md ops Q ds fuel l' a' w) : wpK P md ops Q ds (fuel + 1) l a w := by
  subst ha
  subst hN
  simp only [kanyB, Bool.and_eq_true, beq_iff_eq] at hc
  obtain ⟨⟨⟨h1, h2⟩, h3⟩, h6⟩ := hc
  subst h6
  exact wpK_any hi (Region.noSelect_spec h1) hQ fuel l a w (Region.free_spec hi h2) (by simpa using h3) hy h
def kreadyB (md : Region.Mode) (ops : Array Oper) (l l' : Array Bool) (i : Nat) : Bool := (Region.ready md ops l == [i]) && (l.setIfInBounds i true == l')
/-- One operation alone may come up now: it is run, in a world that has grown; of those of ds nothing is to be shown behind it. -/
theorem kone {i : Nat} {N : Option Tmp} {oi : Oper} {fuel : Nat} {l : Array Bool} {a : Act} {w : World} (l' : Array Bool) (hi : ops[i]? = some oi) (hN : oi.dst = N) (hc : kreadyB md ops l l' i = true)
    (h : ∀ w1, Gr w w1 → ∀ K : Act → World → Prop, (∀ a' w', (i ∉ ds → Gr w1 w') → wpK P md ops Q ds fuel l' a' w' → K a' w') → if Region.wanted oi (yielded ops a.tmps) = true then Oper.wp P oi a w1 K Q else K (a.put N undef) w1) :
    wpK P md ops Q ds (fuel + 1) l a w := by
  subst hN
  simp only [kreadyB, Bool.and_eq_true, beq_iff_eq] at hc
  obtain ⟨h1, h2⟩ := hc
  subst h2
  intro w1 hg
  refine ⟨fun h0 => (by rw [h1] at h0; cases h0), fun j hj => ?_⟩
  rw [h1] at hj
  obtain rfl := List.mem_singleton.1 hj
  exact wpOp_step hi (fun K' hK => h w1 hg K' (fun a' w' h2 h3 => hK a' w' ⟨h2, h3⟩))
theorem kdone {l : Array Bool} {a : Act} {w : World} {n : Nat} (hr : (Region.ready md ops l == []) = true) (h : ∀ w1, Gr w w1 → Q .normal a w1) : wpK P md ops Q ds n l a w := by
  have hr : Region.ready md ops l = [] := by simpa using hr
  cases n with
  | zero => exact fun w1 hg => ⟨hr, h w1 hg⟩
  | succ n => exact fun w1 hg => ⟨fun _ => h w1 hg, by rw [hr]; simp⟩
end

/-! ### the blocks of the call's own -/
/-- What lies in memory that the call made (behind w0): blocks, each with its contents. -/
structure Own (w0 : World) (L : List (Nat × Obj)) (w : World) : Prop where
  below : Below w0.heap.size w0 w
  mem : ∀ p ∈ L, w.heap[p.1]? = some p.2 ∧ w0.heap.size ≤ p.1
  nd : (L.map (·.1)).Nodup
theorem Own.start (w : World) : Own w [] w := ⟨Below.refl _ _, by simp, by simp⟩
theorem Own.up {w0 w w1 : World} {L : List (Nat × Obj)} (h : Own w0 L w) (hg : Gr w w1) : Own w0 L w1 :=
  ⟨h.below.trans (Below.mono hg h.below.size), fun p hp => by
    have := h.mem p hp
    exact ⟨(hg.block p.1 ((Array.getElem?_eq_some_iff.1 this.1).1)).trans this.1, this.2⟩, h.nd⟩
theorem Own.drew {w0 w : World} {L : List (Nat × Obj)} (h : Own w0 L w) : Own w0 L w.drew := ⟨h.below.drew, h.mem, h.nd⟩
theorem Own.drewN {w0 w : World} {L : List (Nat × Obj)} (h : Own w0 L w) (n : Nat) : Own w0 L (w.drewN n) :=
  ⟨⟨h.below.os, h.below.tape, h.below.output, h.below.size, h.below.block⟩, h.mem, h.nd⟩
theorem Own.blk {w0 w : World} {L : List (Nat × Obj)} (h : Own w0 L w) (k : Nat) {g : Nat} {o : Obj} (hk : L[k]? = some (g, o)) : w.heap[g]? = some o := (h.mem _ (List.mem_of_getElem? hk)).1
theorem Own.lt {w0 w : World} {L : List (Nat × Obj)} (h : Own w0 L w) (k : Nat) {g : Nat} {o : Obj} (hk : L[k]? = some (g, o)) : g < w.heap.size := (Array.getElem?_eq_some_iff.1 (h.blk k hk)).1
theorem Own.ge {w0 w : World} {L : List (Nat × Obj)} (h : Own w0 L w) (k : Nat) {g : Nat} {o : Obj} (hk : L[k]? = some (g, o)) : w0.heap.size ≤ g := (h.mem _ (List.mem_of_getElem? hk)).2
theorem Own.cell {w0 w : World} {L : List (Nat × Obj)} (h : Own w0 L w) (k : Nat) {g : Nat} {cs : Array Value} {t : TypeId} (hk : L[k]? = some (g, .cells cs t (0, 0))) (j : Nat) : w.cell? ⟨g, j, none⟩ = cs[j]? := by
  have := h.blk k hk
  simp [World.cell?, this]
theorem Own.frozen {w0 w : World} {L : List (Nat × Obj)} (h : Own w0 L w) (k : Nat) {g : Nat} {cs : Array Value} {t : TypeId} (hk : L[k]? = some (g, .cells cs t (0, 0))) (j : Nat) : w.frozen? ⟨g, j, none⟩ = false := by
  have := h.blk k hk
  simp [World.frozen?, this]
theorem Own.alloc {w0 w : World} {L : List (Nat × Obj)} (h : Own w0 L w) (o : Obj) : Own w0 ((w.heap.size, o) :: L) (w.alloc o) :=
  ⟨h.below.alloc h.below.size o, fun p hp => by
    rcases List.mem_cons.1 hp with rfl | hp
    · exact ⟨by show (w.heap.push o)[w.heap.size]? = _; simp, h.below.size⟩
    · have := h.mem p hp
      exact ⟨(Below.heap_alloc w o p.1 ((Array.getElem?_eq_some_iff.1 this.1).1)).trans this.1, this.2⟩,
   by
    simp only [List.map_cons, List.nodup_cons]
    refine ⟨fun hm => ?_, h.nd⟩
    obtain ⟨p, hp, he⟩ := List.mem_map.1 hm
    have := (Array.getElem?_eq_some_iff.1 (h.mem p hp).1).1
    omega⟩
theorem Own.alloc' {w0 w : World} {L : List (Nat × Obj)} (h : Own w0 L w) (o : Obj) {g : Nat} (hg : w.heap.size = g) : Own w0 ((g, o) :: L) (w.alloc o) := hg ▸ h.alloc o
/-- A block that is known to lie behind w0 and to be another one is taken up. -/
theorem Own.take {w0 w : World} {L : List (Nat × Obj)} (h : Own w0 L w) {g : Nat} {o : Obj} (hb : w.heap[g]? = some o) (hge : w0.heap.size ≤ g) (hne : g ∉ L.map (·.1)) : Own w0 ((g, o) :: L) w :=
  ⟨h.below, fun p hp => by
    rcases List.mem_cons.1 hp with rfl | hp
    · exact ⟨hb, hge⟩
    · exact h.mem p hp, List.nodup_cons.2 ⟨hne, h.nd⟩⟩
theorem Own.drop {w0 w : World} {L : List (Nat × Obj)} (h : Own w0 L w) (L' : List (Nat × Obj)) (hs : L'.Sublist L) : Own w0 L' w :=
  ⟨h.below, fun p hp => h.mem p (hs.subset hp), (hs.map _).nodup h.nd⟩
theorem nodup_get {α : Type} {l : List α} (h : l.Nodup) {i j : Nat} {x : α} (hi : l[i]? = some x) (hj : l[j]? = some x) : i = j := by
  obtain ⟨h1, e1⟩ := List.getElem?_eq_some_iff.1 hi
  obtain ⟨h2, e2⟩ := List.getElem?_eq_some_iff.1 hj
  exact (List.getElem_inj h).1 (e1.trans e2.symm)
theorem Own.modify {w0 w : World} {L : List (Nat × Obj)} (h : Own w0 L w) (k : Nat) {g : Nat} {o o' : Obj} (hk : L[k]? = some (g, o)) {w1 : World}
    (hs : w1.heap.size = w.heap.size) (hos : w1.os = w.os) (htp : w1.tape = w.tape) (hou : w1.output = w.output) (hb : w1.heap[g]? = some o') (hne : ∀ i, i ≠ g → w1.heap[i]? = w.heap[i]?) : Own w0 (L.set k (g, o')) w1 := by
  have hge := h.ge k hk
  refine ⟨h.below.trans ⟨hos, htp, hou, by omega, fun i hi => hne i (by omega)⟩, fun p hp => ?_, ?_⟩
  · obtain ⟨i, hi⟩ := List.getElem?_of_mem hp
    rw [List.getElem?_set] at hi
    split at hi
    · split at hi
      · obtain rfl := Option.some.inj hi
        exact ⟨hb, hge⟩
      · cases hi
    · rename_i hik
      have hpm := h.mem p (List.mem_of_getElem? hi)
      refine ⟨(hne p.1 (fun he => hik ?_)).trans hpm.1, hpm.2⟩
      refine nodup_get h.nd (x := g) (by rw [List.getElem?_map, hk]; rfl) (by rw [List.getElem?_map, hi]; exact congrArg some he)
  · have : (L.set k (g, o')).map (·.1) = L.map (·.1) := by
      rw [List.map_set]
      refine List.ext_getElem? (fun i => ?_)
      rw [List.getElem?_set]
      split
      · rename_i hki
        subst hki
        rw [List.getElem?_map, hk]
        have := (List.getElem?_eq_some_iff.1 hk).1
        simp [this]
      · rfl
    rw [this]
    exact h.nd
theorem Own.set {w0 w : World} {L : List (Nat × Obj)} (h : Own w0 L w) (k : Nat) {g : Nat} {cs : Array Value} {t : TypeId} {fr : Nat × Nat} (hk : L[k]? = some (g, .cells cs t fr)) (j : Nat) (v : Value) :
    Own w0 (L.set k (g, .cells (cs.setIfInBounds j v) t fr)) (w.setCell ⟨g, j, none⟩ v) :=
  h.modify k hk (by simp [World.setCell]) rfl rfl rfl (by simp [World.setCell, Array.getElem?_modify, h.blk k hk]) (fun i hi => Below.heap_setCell w _ _ _ hi)
/-- The same, what comes out written out. -/
theorem Own.set' {w0 w : World} {L L' : List (Nat × Obj)} (h : Own w0 L w) (k : Nat) {g : Nat} {cs : Array Value} {t : TypeId} {fr : Nat × Nat} (hk : L[k]? = some (g, .cells cs t fr)) (j : Nat) (v : Value)
    (hL : L.set k (g, .cells (cs.setIfInBounds j v) t fr) = L') : Own w0 L' (w.setCell ⟨g, j, none⟩ v) := hL ▸ h.set k hk j v

section
variable {P : Program}
theorem RunG_value {oi : Oper} {a : Act} {w : World} {v : Value} (h : (execOp a.eval oi).run P w = .ok (.value v) w) : RunG P w v ((execOp a.eval oi).run P w) := by rw [h]; exact ⟨rfl, .refl _⟩
theorem callFunc_enters {f : FuncId} {fn : Func} (hf : P.funcs[f]? = some fn) (hname : (fn.name == "runtime.NumGoroutine") = false) (hb : fn.body.isSome = true) (args : Array Value) (w : World) : (callFunc f args).run P w = .ok (.enter f args) w := by
  have h1 : fn.name ≠ "runtime.NumGoroutine" := by simpa using hname
  obtain ⟨c, hc⟩ := Option.isSome_iff_exists.1 hb
  simp [callFunc, hf, h1, hc]
theorem RunG_call {oi : Oper} {a : Act} {w : World} {v : Value} {f : FuncId} {fn : Func} {asL : List Operand} {ts : Array TypeId} (hf : P.funcs[f]? = some fn) (hname : (fn.name == "runtime.NumGoroutine") = false) (hb : fn.body.isSome = true) (al : List Value)
    (hop : oi.op = .call { callee := .value (.func f), args := asL.toArray, argTypes := ts }) (hargs : asL.map a.eval = al)
    (h : Calls P f al.toArray w fun e w'' => e = .returned v ∧ Below w.heap.size w w'') : RunG P w v ((execOp a.eval oi).run P w) := by
  have he := callFunc_enters hf hname hb al.toArray w
  have : (execOp a.eval oi).run P w = .ok (.enter f al.toArray) w := by
    unfold execOp
    simp [hop, resolve, Deferred.ofValue, invoke, Act.eval]
    rw [show (List.map (Act.eval a) asL) = al from hargs, he]
  rw [this]
  exact ⟨.refl _, h⟩
end
end Go.Proofs.Ytdmpnogjpgoaaaa

set_option linter.unusedSimpArgs false
namespace Go.Proofs.Ytdmpnogjpgoaaaa
open Go.RowKit Go.Proofs.YtdmpnogjpgoaaaaW.PrintWords Go.Proofs.YtdmpnogjpgoaaaaW.PrintLast Go.Proofs.YtdmpnogjpgoaaaaW.PrintMore
theorem MM4 : MM ^ 4 = 2 * P25 + 38 := by decide +kernel
theorem wd_mod (x j : Nat) (hj : j < 4) : wd (x % MM ^ 4) j = wd x j := by
  have h := wd_MM x j
  rw [h, wd_MM]
  obtain ⟨t, ht⟩ : ∃ t, 4 = j + (t + 1) := ⟨3 - j, by omega⟩
  rw [ht, Nat.pow_add, Nat.mod_mul_right_div_self, Nat.pow_succ, Nat.mod_mul_left_mod]
theorem aggN_mod (x : Nat) : aggN (x % MM ^ 4) = aggN x := by
  unfold aggN
  rw [wd_mod x 0 (by omega), wd_mod x 1 (by omega), wd_mod x 2 (by omega), wd_mod x 3 (by omega)]
theorem aggN_two (x : Nat) (h : x < MM ^ 2) : aggN x = #[.int .u64 (x % 18446744073709551616 : Nat), .int .u64 (x / 18446744073709551616 : Nat), .int .u64 0, .int .u64 0] := by
  have e2 : MM ^ 2 = 340282366920938463463374607431768211456 := by decide +kernel
  rw [e2] at h
  unfold aggN
  rw [show wd x 0 = x % 18446744073709551616 by unfold wd; rw [Nat.pow_zero, Nat.div_one], show wd x 1 = x / 18446744073709551616 by unfold wd; rw [Nat.pow_one]; omega,
    show wd x 2 = 0 by unfold wd; rw [Nat.div_eq_of_lt (by omega)], show wd x 3 = 0 by unfold wd; rw [Nat.div_eq_of_lt (by omega)]]
  rfl
attribute [local irreducible] Calls
set_option maxHeartbeats 4000000 in
set_option maxRecDepth 100000 in
theorem left_any (n h : Nat) (w : World) (hn : n < MM ^ 4) (hh : h < 18446744073709551616) :
    Calls Try.prog 56 #[.agg (aggN n), .int .u64 h] w fun e w' => e = .returned (.agg (aggN ((n + MM ^ 4 * h) % P25))) ∧ Below w.heap.size w w' := by
  have hu65 := Try.underlying67
  unfold aggN
  go_enter Try.func56, Try.ntmps56
  go_wp2
  go_loopg [1] (n + MM ^ 4 * h) (fun g v1 wr => ∃ n' h' : Nat, v1 = .int .u64 h' ∧ Aside0 (h' < 18446744073709551616) ∧ Aside0 (n' < MM ^ 4) ∧ Aside0 (n' + MM ^ 4 * h' = g) ∧ Aside0 (g % P25 = (n + MM ^ 4 * h) % P25) ∧ Own w [(w.heap.size + 1, .cells #[.int .u64 0, .int .u64 0, .int .u64 0, .int .u64 0] 67 (0, 0)), (w.heap.size, .cells (aggN n') 67 (0, 0))] wr)
  case atStart =>
    exact ⟨n, h, rfl, ⟨hh⟩, ⟨hn⟩, ⟨rfl⟩, ⟨rfl⟩, ((Own.start w).alloc (.cells (aggN n) 67)).alloc' _ (by simp)⟩
  case round =>
    obtain ⟨n', h', rfl, Hh, Hn, Hg, HP, HO⟩ := hrel
    by_cases h0 : 0 < h'
    · have h0i : (0 : Int) < (h' : Int) := by omega
      have e2 : MM ^ 2 = 340282366920938463463374607431768211456 := by decide +kernel
      have HPL := Lib.hid (fun W => plus_any n' (h' * 38) W)
      rw [aggN_two (h' * 38) (by rw [e2]; have := Hh.out; omega)] at HPL
      clear e2
      go_wp2_with (first | (go_at_call 95; refine (Mul64_any h' 38 Hh.out (by omega) _).mono ?_; rintro e w1 ⟨rfl, hd1⟩; replace HO := HO.up hd1.below; have c0 := HO.cell 1 rfl; unfold aggN at c0) | (go_at_call 62; refine (HPL.out _).mono ?_; rintro e w2 ⟨rfl, hb2⟩; replace HO := HO.up hb2; clear c0; have c0 := HO.cell 1 rfl; unfold aggN at c0; have f0 := HO.frozen 1 rfl; unfold aggN))
      have hM := MM4
      have hlt : h' * 38 < MM ^ 4 := by have := P25_big; have := Hh.out; have : (18446744073709551616 : Nat) * 38 < MM ^ 4 := by decide +kernel
                                        omega
      have hcy := cy_4 n' (h' * 38) Hn.out hlt
      go_roundg (n' + h' * 38)
      case measure => rw [← Hg.out]; have := Nat.mul_le_mul_right h' (show 39 ≤ MM ^ 4 by rw [hM]; have := P25_pos; omega); omega
      case rel =>
        refine ⟨(n' + h' * 38) % MM ^ 4, cy n' (h' * 38) 4, rfl, ⟨by have := cy_le n' (h' * 38) 4; omega⟩, ⟨Nat.mod_lt _ (MMpos 4)⟩, ⟨by rw [hcy, Nat.mod_add_div]⟩, ⟨?_⟩, ?_⟩
        · rw [← HP.out, ← Hg.out, hM, Nat.add_mul, Nat.mul_comm 2 P25, Nat.mul_assoc, Nat.add_comm (P25 * (2 * h')), ← Nat.add_assoc, Nat.add_mul_mod_self_left, Nat.mul_comm h' 38]
        · rw [aggN_mod]
          exact (((HO.set 1 rfl 0 _).set 1 rfl 1 _).set 1 rfl 2 _).set 1 rfl 3 _
    · obtain rfl : h' = 0 := by omega
      have HV : Aside0 (n' % P25 = (n + MM ^ 4 * h) % P25) := ⟨by rw [← HP.out, ← Hg.out]; simp⟩
      clear HP Hg Hh
      go_wp2
      go_loopg [8] n' (fun g _ wq => ∃ n2 : Nat, Aside0 (n2 = g) ∧ Aside0 (n2 < MM ^ 4) ∧ Aside0 (n2 % P25 = (n + MM ^ 4 * h) % P25) ∧ Own w [(w.heap.size + 1, .cells #[.int .u64 0, .int .u64 0, .int .u64 0, .int .u64 0] 67 (0, 0)), (w.heap.size, .cells (aggN n2) 67 (0, 0))] wq)
      case atStart => exact ⟨n', ⟨rfl⟩, Hn, HV, HO⟩
      case round =>
        clear HO Hn HV h0
        obtain ⟨n2, Hg, Hn, HV, HO⟩ := hrel
        have hPM : P25 < MM ^ 4 := by have := MM4; omega
        have hbw := Lib.hid (bw_4 n2 P25 Hn.out hPM)
        go_wp2_with fail
        refine kstart (n := 9) (ds := [7]) #[false, false, false, false, false, false, false, false, false] (by kernel_rfl) rfl rfl ?_
        refine ktake (i := 0) (N := (some 25)) (v := ?_) (a' := ?_) #[true, false, false, false, false, false, false, false, false] rfl rfl (by kernel_rfl) (fun _ _ _ h => h) (Or.inl ⟨by rfl, fun w1 hg => ?_⟩) ?_ ?_  -- 0 load 67 (tmp 2)
        rotate_left
        · refine RunG_value ?_; have c0 := (HO.up hg).cell 1 rfl; unfold aggN at c0; go_simp; with_reducible rfl
        rotate_left
        · simp only [Act.put, List.setIfInBounds_toArray, List.set_cons_zero, List.set_cons_succ, i64_w, i32_w]; rfl
        refine ktake (i := 1) (N := (some 26)) (v := .agg (aggN P25)) (a' := ?_) #[true, true, false, false, false, false, false, false, false] rfl rfl (by kernel_rfl) (fun _ _ _ h => h) (Or.inl ⟨by rfl, fun w1 hg => RunG_call Try.func64 (by kernel_rfl) rfl [] rfl (by rfl) (prime_any _)⟩) ?_ ?_  -- 1 call { callee := value (func 64), args := #[], argTypes := #[] }
        rotate_left
        · simp only [Act.put, List.setIfInBounds_toArray, List.set_cons_zero, List.set_cons_succ, i64_w, i32_w]; rfl
        refine ktake (i := 2) (N := (some 27)) (v := .tuple #[.agg (aggN (n2 + MM ^ 4 - P25)), .int .u64 (bw n2 P25 4 : Nat)]) (a' := ?_) #[true, true, true, false, false, false, false, false, false] rfl rfl (by kernel_rfl) (fun _ _ _ h => h) (Or.inl ⟨by rfl, fun w1 hg => RunG_call Try.func63 (by kernel_rfl) rfl [.agg (aggN n2), .agg (aggN P25)] rfl (by rfl) (less_any n2 P25 _ hPM)⟩) ?_ ?_  -- 2 call { callee := value (func 63), args := #[tmp 25, tmp 26], argTypes := #[67, 67] }
        rotate_left
        · simp only [Act.put, List.setIfInBounds_toArray, List.set_cons_zero, List.set_cons_succ, i64_w, i32_w]; rfl
        refine kpure (i := 3) (N := (some 24)) (v := ?_) (a' := ?_) #[true, true, true, true, false, false, false, false, false] rfl rfl (by kernel_rfl) (fun _ _ _ h => h) (Or.inl ⟨by rfl, ?_⟩) ?_ ?_  -- 3 move (tmp 27)
        rotate_left
        · intro w'; go_simp; with_reducible rfl
        rotate_left
        · simp only [Act.put, List.setIfInBounds_toArray, List.set_cons_zero, List.set_cons_succ, i64_w, i32_w]; rfl
        refine kpure (i := 4) (N := (some 28)) (v := ?_) (a' := ?_) #[true, true, true, true, true, false, false, false, false] rfl rfl (by kernel_rfl) (fun _ _ _ h => h) (Or.inl ⟨by rfl, ?_⟩) ?_ ?_  -- 4 extract (tmp 24) 0
        rotate_left
        · intro w'; go_simp; with_reducible rfl
        rotate_left
        · simp only [Act.put, List.setIfInBounds_toArray, List.set_cons_zero, List.set_cons_succ, i64_w, i32_w]; rfl
        refine kpure (i := 5) (N := (some 29)) (v := ?_) (a' := ?_) #[true, true, true, true, true, true, false, false, false] rfl rfl (by kernel_rfl) (fun _ _ _ h => h) (Or.inl ⟨by rfl, ?_⟩) ?_ ?_  -- 5 extract (tmp 24) 1
        rotate_left
        · intro w'; go_simp; with_reducible rfl
        rotate_left
        · simp only [Act.put, List.setIfInBounds_toArray, List.set_cons_zero, List.set_cons_succ, i64_w, i32_w]; rfl
        refine kone (i := 6) (N := (some 7)) #[true, true, true, true, true, true, true, false, false] rfl rfl (by kernel_rfl) (fun w1 hg K hK => ?_)  -- 6 alloc 67
        rw [if_pos (by rfl)]
        replace HO := HO.up hg
        have hz := HO.lt 1 rfl
        go_simp
        refine hK _ _ (fun _ => below_alloc (Below.refl _ _) _) ?_
        replace HO := HO.alloc (.cells #[.int .u64 0, .int .u64 0, .int .u64 0, .int .u64 0] 67)
        clear hg K hK
        generalize hwa : w1.alloc (.cells #[.int .u64 0, .int .u64 0, .int .u64 0, .int .u64 0] 67) = wa at *
        generalize hga : w1.heap.size = ga at *
        refine kone (i := 7) (N := none) #[true, true, true, true, true, true, true, true, false] rfl rfl (by kernel_rfl) (fun w1 hg K hK => ?_)  -- 7 store 67 (tmp 7) (tmp 28)
        rw [if_pos (by rfl)]
        replace HO := HO.up hg
        have c1 := HO.cell 0 rfl
        have f1 := HO.frozen 0 rfl
        unfold aggN
        go_simp
        refine hK _ _ (fun h => absurd (by decide) h) ?_
        replace HO := (((HO.set 0 rfl 0 (.int .u64 (wd (n2 + MM ^ 4 - P25) 0))).set 0 rfl 1 (.int .u64 (wd (n2 + MM ^ 4 - P25) 1))).set 0 rfl 2 (.int .u64 (wd (n2 + MM ^ 4 - P25) 2))).set 0 rfl 3 (.int .u64 (wd (n2 + MM ^ 4 - P25) 3))
        replace HO : Own w [(ga, .cells (aggN (n2 + MM ^ 4 - P25)) 67 (0, 0)), (w.heap.size + 1, .cells #[.int .u64 0, .int .u64 0, .int .u64 0, .int .u64 0] 67 (0, 0)), (w.heap.size, .cells (aggN n2) 67 (0, 0))] _ := HO
        clear c1 f1 hg K hK
        revert HO
        generalize (((w1.setCell _ _).setCell _ _).setCell _ _).setCell _ _ = wb
        intro HO
        refine kpure (i := 8) (N := (some 8)) (v := ?_) (a' := ?_) #[true, true, true, true, true, true, true, true, true] rfl rfl (by kernel_rfl) (fun _ _ _ h => h) (Or.inl ⟨by rfl, ?_⟩) ?_ ?_  -- 8 assign (tmp 29)
        rotate_left
        · intro w'; go_simp; with_reducible rfl
        rotate_left
        · simp only [Act.put, List.setIfInBounds_toArray, List.set_cons_zero, List.set_cons_succ, i64_w, i32_w]; rfl
        refine kdone (by kernel_rfl) (fun w1 hg => ?_)
        replace HO := HO.up hg
        clear hg hz
        by_cases hP : n2 < P25
        · rw [if_pos hP] at hbw
          rw [hbw.out]
          have c0 := HO.cell 2 rfl
          have f1 := HO.frozen 1 rfl
          have c1 := HO.cell 1 rfl
          unfold aggN at c0
          obtain rfl : n2 = (n + MM ^ 4 * h) % P25 := by rw [← HV.out, Nat.mod_eq_of_lt hP]
          clear Hg HV Hn hPM hbw hP
          go_wp2
          exact bodyPost_ret (v := .agg (aggN ((n + MM ^ 4 * h) % P25))) (by simp [results, Try.results56, go_sem, aggN, *]) rfl ⟨rfl, ((((HO.set 1 rfl 0 _).set 1 rfl 1 _).set 1 rfl 2 _).set 1 rfl 3 _).below⟩
        · rw [if_neg hP] at hbw
          rw [hbw.out]
          have c0 := HO.cell 0 rfl
          have f1 := HO.frozen 2 rfl
          have c1 := HO.cell 2 rfl
          unfold aggN at c0 c1
          have e1 : (n2 + MM ^ 4 - P25) % MM ^ 4 = n2 - P25 := by
            have := Hn.out
            rw [show n2 + MM ^ 4 - P25 = (n2 - P25) + MM ^ 4 by omega, Nat.add_mod_right, Nat.mod_eq_of_lt (by omega)]
          have e2 : (n2 - P25) % P25 = n2 % P25 := by rw [← Nat.mod_eq_sub_mod (by omega)]
          have hE := Aside0.mk e1
          have hE2 := Aside0.mk e2
          have hpp := P25_pos
          clear e1 e2 hbw
          go_wp2
          go_roundg (n2 - P25)
          case measure => have := Hg.out; omega
          case rel =>
            refine ⟨n2 - P25, ⟨rfl⟩, ⟨by have := Hn.out; omega⟩, ⟨by rw [hE2.out, HV.out]⟩, ?_⟩
            rw [← hE.out, aggN_mod]
            exact ((((HO.set 2 rfl 0 _).set 2 rfl 1 _).set 2 rfl 2 _).set 2 rfl 3 _).drop _ (List.Sublist.cons _ (List.Sublist.refl _))
end Go.Proofs.Ytdmpnogjpgoaaaa

/-! Words as a function of their place: values, a word put anew. -/
namespace Go.Proofs.Ytdmpnogjpgoaaaa
open Go.RowKit Go.Proofs.YtdmpnogjpgoaaaaW.PrintWords
def wA (k : IntKind) (n : Nat) (f : Nat → Nat) : Array Value := ((List.range n).map (fun i => Value.int k (f i : Nat))).toArray
def upd (f : Nat → Nat) (k s : Nat) : Nat → Nat := fun i => if i = k then s else f i
theorem upd_same (f : Nat → Nat) (k s : Nat) : upd f k s k = s := by simp [upd]
theorem upd_ne (f : Nat → Nat) {k s i : Nat} (h : i ≠ k) : upd f k s i = f i := by simp [upd, h]
theorem wA_get (K : IntKind) (n : Nat) (f : Nat → Nat) (i : Nat) (h : i < n) : (wA K n f)[i]? = some (.int K (f i : Nat)) := by
  unfold wA
  rw [List.getElem?_toArray, List.getElem?_map, List.getElem?_range h]; rfl
theorem wA_set (K : IntKind) (n : Nat) (f : Nat → Nat) (i s : Nat) : (wA K n f).setIfInBounds i (.int K (s : Nat)) = wA K n (upd f i s) := by
  unfold wA
  rw [List.setIfInBounds_toArray]
  congr 1
  refine List.ext_getElem? (fun j => ?_)
  rw [List.getElem?_set]
  by_cases hj : j < n
  · rw [List.getElem?_map, List.getElem?_map, List.getElem?_range hj]
    by_cases hij : i = j
    · subst hij; simp [upd, hj]
    · rw [if_neg hij]; simp [upd, Ne.symm hij]
  · rw [List.getElem?_eq_none (by simp; omega), List.getElem?_eq_none (by simp; omega)]
    split <;> simp_all
theorem wA_size (K : IntKind) (n : Nat) (f : Nat → Nat) : (wA K n f).size = n := by simp [wA]
theorem aggN_wA (v : Nat) : aggN v = wA .u64 4 (wd v) := rfl
theorem wA_congr (K : IntKind) (n : Nat) {f g : Nat → Nat} (h : ∀ i, i < n → f i = g i) : wA K n f = wA K n g := by
  unfold wA
  congr 1
  exact List.map_congr_left (fun i hi => by rw [h i (List.mem_range.1 hi)])
/-- the number of n words -/
def vW (f : Nat → Nat) : Nat → Nat
  | 0 => 0
  | n + 1 => vW f n + MM ^ n * f n
theorem vW_congr {f g : Nat → Nat} : ∀ n : Nat, (∀ i, i < n → f i = g i) → vW f n = vW g n
  | 0, _ => rfl
  | n + 1, h => by show vW f n + _ = vW g n + _; rw [vW_congr n (fun i hi => h i (by omega)), h n (by omega)]
theorem vW_upd (f : Nat → Nat) (k s : Nat) : ∀ n : Nat, k < n → vW (upd f k s) n + MM ^ k * f k = vW f n + MM ^ k * s
  | 0, h => by omega
  | n + 1, h => by
    show vW (upd f k s) n + MM ^ n * upd f k s n + _ = vW f n + MM ^ n * f n + _
    by_cases hk : k = n
    · subst hk
      rw [upd_same, vW_congr (f := upd f k s) (g := f) k (fun i hi => upd_ne f (by omega))]; omega
    · have := vW_upd f k s n (by omega)
      rw [upd_ne f (Ne.symm hk)]; omega
theorem vW_wd (v : Nat) : ∀ n : Nat, vW (wd v) n = v % MM ^ n
  | 0 => by simp [vW, Nat.mod_one]
  | n + 1 => by show vW (wd v) n + _ = _; rw [vW_wd v n, mod_succ]
theorem vW_lt {f : Nat → Nat} (hf : ∀ i, f i < MM) : ∀ n : Nat, vW f n < MM ^ n
  | 0 => by simp [vW]
  | n + 1 => by
    have h1 := vW_lt hf n
    have h2 := hf n
    show vW f n + MM ^ n * f n < MM ^ (n + 1)
    rw [Nat.pow_succ]
    have : MM ^ n * (f n + 1) ≤ MM ^ n * MM := Nat.mul_le_mul_left _ h2
    rw [Nat.mul_add, Nat.mul_one] at this
    omega
theorem wd_vW {f : Nat → Nat} (hf : ∀ i, f i < MM) (n : Nat) : ∀ i, i < n → wd (vW f n) i = f i := by
  induction n with
  | zero => intro i h; omega
  | succ n ih =>
    intro i hi
    have hl := vW_lt hf n
    show wd (vW f n + MM ^ n * f n) i = f i
    rw [wd_MM]
    by_cases h : i = n
    · subst h
      rw [Nat.add_mul_div_left _ _ (MMpos _), Nat.div_eq_of_lt hl, Nat.zero_add, Nat.mod_eq_of_lt (hf _)]
    · have := ih i (by omega)
      rw [wd_MM] at this
      obtain ⟨t, ht⟩ : ∃ t, n = i + (t + 1) := ⟨n - i - 1, by omega⟩
      have e : MM ^ n * f n = MM ^ i * (MM * (MM ^ t * f n)) := by rw [ht, Nat.pow_add, Nat.pow_succ]; simp only [Nat.mul_assoc, Nat.mul_comm, Nat.mul_left_comm]
      rw [e, Nat.add_mul_div_left _ _ (MMpos _), Nat.add_mul_mod_self_left]; exact this
theorem vW_zero {f : Nat → Nat} (k : Nat) : ∀ n : Nat, k ≤ n → (∀ i, k ≤ i → i < n → f i = 0) → vW f n = vW f k
  | 0, h, _ => by obtain rfl : k = 0 := by omega
                  rfl
  | n + 1, h, hz => by
    by_cases hk : k = n + 1
    · rw [hk]
    · show vW f n + MM ^ n * f n = _
      rw [vW_zero k n (by omega) (fun i h1 h2 => hz i h1 (by omega)), hz n (by omega) (by omega)]; omega
theorem vW_split (f : Nat → Nat) (k : Nat) : ∀ n : Nat, vW f (k + n) = vW f k + MM ^ k * vW (fun i => f (k + i)) n
  | 0 => by simp [vW]
  | n + 1 => by
    show vW f (k + n) + MM ^ (k + n) * f (k + n) = vW f k + MM ^ k * (vW _ n + MM ^ n * f (k + n))
    rw [vW_split f k n, Nat.pow_add, Nat.mul_add]; simp only [Nat.mul_assoc]; omega
/-! ### one step of the product of two words, with what lies there and what is carried -/
theorem mac (p f c : Nat) (hp : p ≤ 340282366920938463426481119284349108225) (hf : f < MM) (hc : c < MM) :
    adS (adS (p % MM) f 0) c 0 + MM * (p / MM + adC (p % MM) f 0 + adC (adS (p % MM) f 0) c 0) = p + f + c ∧
    p / MM + adC (p % MM) f 0 < MM ∧ p / MM + adC (p % MM) f 0 + adC (adS (p % MM) f 0) c 0 < MM ∧ adS (adS (p % MM) f 0) c 0 < MM := by
  unfold adS adC
  unfold MM at *
  omega
theorem mul_bd {x y : Nat} (hx : x < MM) (hy : y < MM) : x * y ≤ 340282366920938463426481119284349108225 := by
  have := Nat.mul_le_mul (show x ≤ 18446744073709551615 by unfold MM at hx; omega) (show y ≤ 18446744073709551615 by unfold MM at hy; omega)
  omega
/-- the value behind a step -/
theorem step_val {V V' X fk s c c' p R : Nat} (h1 : V' + X * fk = V + X * s) (h2 : s + MM * c' = p + fk + c) (h3 : V + X * c = R) : V' + X * MM * c' = R + X * p := by
  have h4 : X * s + X * (MM * c') = X * p + X * fk + X * c := by rw [← Nat.mul_add, h2, Nat.mul_add, Nat.mul_add]
  rw [Nat.mul_assoc]; omega
end Go.Proofs.Ytdmpnogjpgoaaaa

set_option linter.unusedSimpArgs false
namespace Go.Proofs.Ytdmpnogjpgoaaaa
open Go.RowKit Go.Proofs.YtdmpnogjpgoaaaaW.PrintWords Go.Proofs.YtdmpnogjpgoaaaaW.PrintLast Go.Proofs.YtdmpnogjpgoaaaaW.PrintMore
def zero4 : Array Value := #[.int .u64 0, .int .u64 0, .int .u64 0, .int .u64 0]
theorem mulHL (x y : Nat) (hx : x < MM) (hy : y < MM) (w : World) :
    Calls Try.prog 95 #[.int .u64 x, .int .u64 y] w fun e w' => e = .returned (.tuple #[.int .u64 (x * y / MM : Nat), .int .u64 (x * y % MM : Nat)]) ∧ Below w.heap.size w w' :=
  (Mul64_any x y hx hy w).mono fun _ _ h => ⟨h.1, h.2.below⟩
theorem mod_mul_succ (n m k : Nat) (hm : m < MM ^ 4) : n % MM ^ k * m + MM ^ k * (wd n k * (m % MM ^ 4)) = n % MM ^ (k + 1) * m := by
  rw [Nat.mod_eq_of_lt hm, mod_succ, Nat.add_mul, Nat.mul_assoc]
theorem mod_mul_step (n m k j : Nat) : MM ^ k * (wd n k * (m % MM ^ j)) + MM ^ (k + j) * (wd n k * wd m j) = MM ^ k * (wd n k * (m % MM ^ (j + 1))) := by
  rw [mod_succ m j, Nat.mul_add, Nat.mul_add, Nat.pow_add]
  congr 1
  simp only [Nat.mul_assoc, Nat.mul_left_comm]
attribute [local irreducible] Calls
set_option maxHeartbeats 4000000 in
set_option maxRecDepth 100000 in
theorem times_any (n m : Nat) (w : World) (hn : n < MM ^ 4) (hm : m < MM ^ 4) :
    Calls Try.prog 65 #[.agg (aggN n), .agg (aggN m)] w fun e w' => e = .returned (.agg (aggN (n * m % P25))) ∧ Below w.heap.size w w' := by
  have hu65 := Try.underlying67
  have hu109 := Try.underlying109
  have hat : ∀ w a, (Instr.arrayAt 67 (.slice a 4 8)).run Try.prog w = .ok (.pointer a) w := fun w a => run_arrayAt w 67 _ 4 a 4 8 hu65 (by omega)
  unfold aggN
  go_enter Try.func65, Try.ntmps65
  go_wp2
  go_loopw [20] (fun i wr => ∃ k : Nat, ∃ f : Nat → Nat, k ≤ 4 ∧ i = .int .i64 k ∧ Aside0 (∀ i, f i < MM) ∧ Aside0 (∀ i, k + 4 ≤ i → f i = 0) ∧ Aside0 (vW f 8 = n % MM ^ k * m) ∧ Own w [(w.heap.size + 3, .cells (wA .u64 8 f) 109 (0, 0)), (w.heap.size + 2, .cells zero4 67 (0, 0)), (w.heap.size + 1, .cells (aggN m) 67 (0, 0)), (w.heap.size, .cells (aggN n) 67 (0, 0))] wr) (fun i _ => (4 - intOf i).toNat)
  case atStart =>
    exact ⟨0, fun _ => 0, by omega, rfl, ⟨fun _ => by show 0 < MM; unfold MM; omega⟩, ⟨fun _ _ => rfl⟩, ⟨by simp [vW, Nat.mod_one]⟩, ((((Own.start w).alloc (.cells (aggN n) 67)).alloc' (.cells (aggN m) 67) (by simp)).alloc' (.cells zero4 67) (by simp)).alloc' (.cells (wA .u64 8 (fun _ => 0)) 109) (by simp)⟩
  case round =>
    obtain ⟨k, f, hk, rfl, Hf, Hz, HV, HO⟩ := hrel
    by_cases hlt : k < 4
    · have hlti : (k : Int) < 4 := by omega
      have hki : (0 : Int) ≤ (k : Int) := by omega
      go_wp2
      go_loopw [23, 7] (fun j c wq => ∃ jn cn : Nat, ∃ g : Nat → Nat, jn ≤ 4 ∧ j = .int .i64 jn ∧ c = .int .u64 cn ∧ Aside0 (cn < MM) ∧ Aside0 (∀ i, g i < MM) ∧ Aside0 (∀ i, k + 4 ≤ i → g i = 0) ∧ Aside0 (vW g 8 + MM ^ (k + jn) * cn = n % MM ^ k * m + MM ^ k * (wd n k * (m % MM ^ jn))) ∧ Own w [(w.heap.size + 3, .cells (wA .u64 8 g) 109 (0, 0)), (w.heap.size + 2, .cells zero4 67 (0, 0)), (w.heap.size + 1, .cells (aggN m) 67 (0, 0)), (w.heap.size, .cells (aggN n) 67 (0, 0))] wq) (fun j _ _ => (4 - intOf j).toNat)
      case atStart => exact ⟨0, 0, f, by omega, rfl, rfl, ⟨by unfold MM; omega⟩, Hf, Hz, ⟨by rw [HV.out]; simp [Nat.mod_one]⟩, HO⟩
      case round =>
        clear HO HV Hz Hf f
        obtain ⟨jn, cn, g, hj, rfl, rfl, Hc, Hg, Hz, HV, HO⟩ := hrel
        by_cases hjlt : jn < 4
        · have hjlti : (jn : Int) < 4 := by omega
          have hji : (0 : Int) ≤ (jn : Int) := by omega
          have hs8 : (k : Int) + (jn : Int) < 8 := by omega
          have hn0 : wr.cell? ⟨w.heap.size, k, none⟩ = some (.int .u64 (wd n k : Nat)) := (HO.cell 3 rfl k).trans (wA_get .u64 4 (wd n) k hlt)
          have hm0 : wr.cell? ⟨w.heap.size + 1, jn, none⟩ = some (.int .u64 (wd m jn : Nat)) := (HO.cell 2 rfl jn).trans (wA_get .u64 4 (wd m) jn hjlt)
          have hpb := mul_bd (wd_lt n k) (wd_lt m jn)
          obtain ⟨q1, q2, q3, q4⟩ := mac (wd n k * wd m jn) (g (k + jn)) cn hpb (Hg.out _) Hc.out
          have a1 := add75_0 (wd n k * wd m jn % MM) (g (k + jn))
          have a2 := add75_0 (adS (wd n k * wd m jn % MM) (g (k + jn)) 0) cn
          have HM := mulHL (wd n k) (wd m jn) (wd_lt n k) (wd_lt m jn)
          obtain ⟨fk, hfk⟩ : ∃ x, x = g (k + jn) := ⟨_, rfl⟩
          have hcell : ∀ W, Own w [(w.heap.size + 3, .cells (wA .u64 8 g) 109 (0, 0)), (w.heap.size + 2, .cells zero4 67 (0, 0)), (w.heap.size + 1, .cells (aggN m) 67 (0, 0)), (w.heap.size, .cells (aggN n) 67 (0, 0))] W → W.cell? ⟨w.heap.size + 3, k + jn, none⟩ = some (.int .u64 (fk : Nat)) := fun W h => hfk ▸ (h.cell 0 rfl (k + jn)).trans (wA_get .u64 8 g (k + jn) (by omega))
          rw [← hfk] at q1 q2 q3 q4 a1 a2
          have Hq := Aside0.mk (mod_mul_step n m k jn)
          generalize hpp : wd n k * wd m jn = p at HM a1 a2 q1 q2 q3 q4 hpb
          generalize p / MM = hi at HM q1 q2 q3
          generalize p % MM = lo at *
          generalize adS lo fk 0 = s1 at *
          generalize adC lo fk 0 = o1 at *
          generalize adS s1 cn 0 = s2 at *
          generalize adC s1 cn 0 = o2 at *
          have hb1 : (hi : Int) + (o1 : Int) < 18446744073709551616 := by unfold MM at q2; omega
          have hb2 : (hi : Int) + (o1 : Int) + (o2 : Int) < 18446744073709551616 := by unfold MM at q3; omega
          have HM := Lib.hid HM
          have Hcell := Lib.hid hcell
          have Hpp := Aside0.mk hpp
          have Hfk := Aside0.mk hfk
          have Q1 := Aside0.mk q1
          have Q3 := Aside0.mk q3
          have Q4 := Aside0.mk q4
          clear hcell hpp hfk q1 q2 q3 q4 hpb
          go_wp2_with fail
          refine kstart (n := 12) (ds := []) #[false, false, false, false, false, false, false, false, false, false, false, false] (by kernel_rfl) rfl rfl ?_
          refine kpure (i := 0) (N := (some 27)) (v := ?_) (a' := ?_) #[true, false, false, false, false, false, false, false, false, false, false, false] rfl rfl (by kernel_rfl) (fun _ _ _ h => h) (Or.inl ⟨by rfl, ?_⟩) ?_ ?_  -- 0 move (tmp 6)
          rotate_left
          · intro w'; go_simp; with_reducible rfl
          rotate_left
          · simp only [Act.put, List.setIfInBounds_toArray, List.set_cons_zero, List.set_cons_succ, i64_w, i32_w]; rfl
          refine kpure (i := 1) (N := (some 28)) (v := ?_) (a' := ?_) #[true, true, false, false, false, false, false, false, false, false, false, false] rfl rfl (by kernel_rfl) (fun _ _ _ h => h) (Or.inl ⟨by rfl, ?_⟩) ?_ ?_  -- 1 indexAddr 67 (tmp 2) (tmp 27)
          rotate_left
          · intro w'; go_simp; with_reducible rfl
          rotate_left
          · simp only [Act.put, List.setIfInBounds_toArray, List.set_cons_zero, List.set_cons_succ, i64_w, i32_w]; rfl
          refine kpure (i := 3) (N := (some 30)) (v := ?_) (a' := ?_) #[true, true, false, true, false, false, false, false, false, false, false, false] rfl rfl (by kernel_rfl) (fun _ _ _ h => h) (Or.inl ⟨by rfl, ?_⟩) ?_ ?_  -- 3 move (tmp 8)
          rotate_left
          · intro w'; go_simp; with_reducible rfl
          rotate_left
          · simp only [Act.put, List.setIfInBounds_toArray, List.set_cons_zero, List.set_cons_succ, i64_w, i32_w]; rfl
          refine kpure (i := 4) (N := (some 31)) (v := ?_) (a' := ?_) #[true, true, false, true, true, false, false, false, false, false, false, false] rfl rfl (by kernel_rfl) (fun _ _ _ h => h) (Or.inl ⟨by rfl, ?_⟩) ?_ ?_  -- 4 indexAddr 67 (tmp 3) (tmp 30)
          rotate_left
          · intro w'; go_simp; with_reducible rfl
          rotate_left
          · simp only [Act.put, List.setIfInBounds_toArray, List.set_cons_zero, List.set_cons_succ, i64_w, i32_w]; rfl
          refine ktake (i := 2) (N := (some 29)) (v := ?_) (a' := ?_) #[true, true, true, true, true, false, false, false, false, false, false, false] rfl rfl (by kernel_rfl) (fun _ _ _ h => h) (Or.inl ⟨by rfl, fun w1 hg => ?_⟩) ?_ ?_  -- 2 load 42 (tmp 28)
          rotate_left
          · refine RunG_value ?_; have c0 := ((HO.up hg).cell 3 rfl k).trans (wA_get .u64 4 (wd n) k hlt); have c1 := ((HO.up hg).cell 2 rfl jn).trans (wA_get .u64 4 (wd m) jn hjlt); go_simp; with_reducible rfl
          rotate_left
          · simp only [Act.put, List.setIfInBounds_toArray, List.set_cons_zero, List.set_cons_succ, i64_w, i32_w]; rfl
          refine ktake (i := 5) (N := (some 32)) (v := ?_) (a' := ?_) #[true, true, true, true, true, true, false, false, false, false, false, false] rfl rfl (by kernel_rfl) (fun _ _ _ h => h) (Or.inl ⟨by rfl, fun w1 hg => ?_⟩) ?_ ?_  -- 5 load 42 (tmp 31)
          rotate_left
          · refine RunG_value ?_; have c0 := ((HO.up hg).cell 3 rfl k).trans (wA_get .u64 4 (wd n) k hlt); have c1 := ((HO.up hg).cell 2 rfl jn).trans (wA_get .u64 4 (wd m) jn hjlt); go_simp; with_reducible rfl
          rotate_left
          · simp only [Act.put, List.setIfInBounds_toArray, List.set_cons_zero, List.set_cons_succ, i64_w, i32_w]; rfl
          refine ktake (i := 6) (N := (some 33)) (v := .tuple #[.int .u64 (hi : Nat), .int .u64 (lo : Nat)]) (a' := ?_) #[true, true, true, true, true, true, true, false, false, false, false, false] rfl rfl (by kernel_rfl) (fun _ _ _ h => h) (Or.inl ⟨by rfl, fun w1 hg => RunG_call Try.func95 (by kernel_rfl) rfl [.int .u64 (wd n k : Nat), .int .u64 (wd m jn : Nat)] rfl (by rfl) (HM.out _)⟩) ?_ ?_  -- 6 call { callee := value (func 95), args := #[tmp 29, tmp 32], argTypes := #[42, 42] }
          rotate_left
          · simp only [Act.put, List.setIfInBounds_toArray, List.set_cons_zero, List.set_cons_succ, i64_w, i32_w]; rfl
          refine kpure (i := 7) (N := (some 26)) (v := ?_) (a' := ?_) #[true, true, true, true, true, true, true, true, false, false, false, false] rfl rfl (by kernel_rfl) (fun _ _ _ h => h) (Or.inl ⟨by rfl, ?_⟩) ?_ ?_  -- 7 move (tmp 33)
          rotate_left
          · intro w'; go_simp; with_reducible rfl
          rotate_left
          · simp only [Act.put, List.setIfInBounds_toArray, List.set_cons_zero, List.set_cons_succ, i64_w, i32_w]; rfl
          refine kpure (i := 8) (N := (some 34)) (v := ?_) (a' := ?_) #[true, true, true, true, true, true, true, true, true, false, false, false] rfl rfl (by kernel_rfl) (fun _ _ _ h => h) (Or.inl ⟨by rfl, ?_⟩) ?_ ?_  -- 8 extract (tmp 26) 0
          rotate_left
          · intro w'; go_simp; with_reducible rfl
          rotate_left
          · simp only [Act.put, List.setIfInBounds_toArray, List.set_cons_zero, List.set_cons_succ, i64_w, i32_w]; rfl
          refine kpure (i := 9) (N := (some 35)) (v := ?_) (a' := ?_) #[true, true, true, true, true, true, true, true, true, true, false, false] rfl rfl (by kernel_rfl) (fun _ _ _ h => h) (Or.inl ⟨by rfl, ?_⟩) ?_ ?_  -- 9 extract (tmp 26) 1
          rotate_left
          · intro w'; go_simp; with_reducible rfl
          rotate_left
          · simp only [Act.put, List.setIfInBounds_toArray, List.set_cons_zero, List.set_cons_succ, i64_w, i32_w]; rfl
          refine kpure (i := 10) (N := (some 9)) (v := ?_) (a' := ?_) #[true, true, true, true, true, true, true, true, true, true, true, false] rfl rfl (by kernel_rfl) (fun _ _ _ h => h) (Or.inl ⟨by rfl, ?_⟩) ?_ ?_  -- 10 assign (tmp 34)
          rotate_left
          · intro w'; go_simp; with_reducible rfl
          rotate_left
          · simp only [Act.put, List.setIfInBounds_toArray, List.set_cons_zero, List.set_cons_succ, i64_w, i32_w]; rfl
          refine kpure (i := 11) (N := (some 10)) (v := ?_) (a' := ?_) #[true, true, true, true, true, true, true, true, true, true, true, true] rfl rfl (by kernel_rfl) (fun _ _ _ h => h) (Or.inl ⟨by rfl, ?_⟩) ?_ ?_  -- 11 assign (tmp 35)
          rotate_left
          · intro w'; go_simp; with_reducible rfl
          rotate_left
          · simp only [Act.put, List.setIfInBounds_toArray, List.set_cons_zero, List.set_cons_succ, i64_w, i32_w]; rfl
          refine kdone (by kernel_rfl) (fun w1 hg => ?_)
          replace HO := HO.up hg
          have c2 := Hcell.out _ HO
          have f2 := HO.frozen 0 rfl
          clear hg
          go_wp2
          go_roundw
          case measure => simp [intOf]; omega
          case rel =>
            refine ⟨jn + 1, hi + o1 + o2, upd g (k + jn) s2, by omega, by go_num, by go_num, Q3, ⟨fun i => ?_⟩, ⟨fun i hi => ?_⟩, ⟨?_⟩, ?_⟩
            · unfold upd; split
              · exact Q4.out
              · exact Hg.out i
            · rw [upd_ne _ (by omega)]; exact Hz.out i hi
            · have h1 := vW_upd g (k + jn) s2 8 (by omega)
              rw [← Hfk.out] at h1
              have h2 := step_val h1 Q1.out HV.out
              rw [← Hq.out, Hpp.out, ← Nat.add_assoc, Nat.pow_succ]
              exact h2.trans (Nat.add_assoc _ _ _)
            · have := HO.set 0 rfl (k + jn) (.int .u64 (s2 : Nat))
              rw [wA_set] at this
              exact this
        · obtain rfl : jn = 4 := by omega
          have hs8 : (k : Int) + 4 < 8 := by omega
          have c2 : wr.cell? ⟨w.heap.size + 3, k + 4, none⟩ = some (.int .u64 (g (k + 4) : Nat)) := (HO.cell 0 rfl (k + 4)).trans (wA_get .u64 8 g (k + 4) (by omega))
          have f2 := HO.frozen 0 rfl
          go_wp2
          go_roundw
          case measure => simp [intOf]; omega
          case rel =>
            refine ⟨k + 1, upd g (k + 4) cn, by omega, by go_num, ⟨fun i => ?_⟩, ⟨fun i hi => ?_⟩, ⟨?_⟩, ?_⟩
            · unfold upd; split
              · exact Hc.out
              · exact Hg.out i
            · rw [upd_ne _ (by omega)]; exact Hz.out i (by omega)
            · have h1 := vW_upd g (k + 4) cn 8 (by omega)
              rw [Hz.out (k + 4) (by omega)] at h1
              have h2 := HV.out
              rw [mod_mul_succ n m k hm] at h2
              omega
            · have := HO.set 0 rfl (k + 4) (.int .u64 (cn : Nat))
              rw [wA_set] at this
              exact this
    · obtain rfl : k = 4 := by omega
      have c0 : ∀ j, j < 8 → wr.cell? ⟨w.heap.size + 3, j, none⟩ = some (.int .u64 (f j : Nat)) := fun j hj => (HO.cell 0 rfl j).trans (wA_get .u64 8 f j hj)
      have c00 := c0 0 (by omega)
      have c01 := c0 1 (by omega)
      have c02 := c0 2 (by omega)
      have c03 := c0 3 (by omega)
      clear c0
      have hsz := HO.lt 0 rfl
      obtain ⟨gl, hgl⟩ : ∃ x, x = wr.heap.size := ⟨_, rfl⟩
      have Hgl := Aside0.mk hgl
      clear hgl
      go_wp2
      rw [← Hgl.out, show ((4 : Nat) : Int) = 4 from rfl]
      go_loopw [72, 14] (fun j c wq => ∃ i cn : Nat, ∃ g : Nat → Nat, i ≤ 4 ∧ j = .int .i64 i ∧ c = .int .u64 cn ∧ Aside0 (cn < MM) ∧ Aside0 (∀ i, g i < MM) ∧ Aside0 (vW g 4 + MM ^ i * cn = vW f 4 + 38 * vW (fun t => f (4 + t)) i) ∧ Own w [(gl, .cells (wA .u64 4 g) 67 (0, 0)), (w.heap.size + 3, .cells (wA .u64 8 f) 109 (0, 0)), (w.heap.size + 2, .cells zero4 67 (0, 0)), (w.heap.size + 1, .cells (aggN m) 67 (0, 0)), (w.heap.size, .cells (aggN n) 67 (0, 0))] wq) (fun j _ _ => (4 - intOf j).toNat)
      case atStart =>
        refine ⟨0, 0, f, by omega, rfl, rfl, ⟨by unfold MM; omega⟩, Hf, ⟨by simp [vW]⟩, ?_⟩
        exact HO.alloc' (.cells (wA .u64 4 f) 67) Hgl.out.symm
      case round =>
        have HF := Hf
        have HV8 := HV
        clear HO HV Hz Hf c00 c01 c02 c03 hsz Hgl
        obtain ⟨i, cn, g, hj, rfl, rfl, Hc, Hg, HV, HO⟩ := hrel
        by_cases hjlt : i < 4
        · have hjlti : (i : Int) < 4 := by omega
          have hji : (0 : Int) ≤ (i : Int) := by omega
          have hs8 : (4 : Int) + (i : Int) < 8 := by omega
          have hn0 : wr.cell? ⟨w.heap.size + 3, 4 + i, none⟩ = some (.int .u64 (f (4 + i) : Nat)) := (HO.cell 1 rfl (4 + i)).trans (wA_get .u64 8 f (4 + i) (by omega))
          have hpb := mul_bd (HF.out (4 + i)) (show 38 < MM by unfold MM; omega)
          obtain ⟨q1, q2, q3, q4⟩ := mac (f (4 + i) * 38) (g i) cn hpb (Hg.out _) Hc.out
          have a1 := add75_0 (f (4 + i) * 38 % MM) (g i)
          have a2 := add75_0 (adS (f (4 + i) * 38 % MM) (g i) 0) cn
          have HM := mulHL (f (4 + i)) 38 (HF.out (4 + i)) (show 38 < MM by unfold MM; omega)
          obtain ⟨fk, hfk⟩ : ∃ x, x = g i := ⟨_, rfl⟩
          have hcell : ∀ W, Own w [(gl, .cells (wA .u64 4 g) 67 (0, 0)), (w.heap.size + 3, .cells (wA .u64 8 f) 109 (0, 0)), (w.heap.size + 2, .cells zero4 67 (0, 0)), (w.heap.size + 1, .cells (aggN m) 67 (0, 0)), (w.heap.size, .cells (aggN n) 67 (0, 0))] W → W.cell? ⟨gl, i, none⟩ = some (.int .u64 (fk : Nat)) := fun W h => hfk ▸ (h.cell 0 rfl i).trans (wA_get .u64 4 g i (by omega))
          rw [← hfk] at q1 q2 q3 q4 a1 a2
          obtain ⟨ft, hft⟩ : ∃ x, x = f (4 + i) := ⟨_, rfl⟩
          rw [← hft] at hn0 q1 q2 q3 q4 a1 a2 HM hpb
          obtain ⟨p, hp⟩ : ∃ x, x = ft * 38 := ⟨_, rfl⟩
          rw [← hp] at q1 q2 q3 q4 a1 a2 HM
          generalize p / MM = hi at HM q1 q2 q3
          generalize p % MM = lo at *
          generalize adS lo fk 0 = s1 at *
          generalize adC lo fk 0 = o1 at *
          generalize adS s1 cn 0 = s2 at *
          generalize adC s1 cn 0 = o2 at *
          have hb1 : (hi : Int) + (o1 : Int) < 18446744073709551616 := by unfold MM at q2; omega
          have hb2 : (hi : Int) + (o1 : Int) + (o2 : Int) < 18446744073709551616 := by unfold MM at q3; omega
          have HM := Lib.hid HM
          have Hcell := Lib.hid hcell
          have Hp := Aside0.mk hp
          have Hft := Aside0.mk hft
          have Hfk := Aside0.mk hfk
          have Q1 := Aside0.mk q1
          have Q3 := Aside0.mk q3
          have Q4 := Aside0.mk q4
          clear hcell hp hft hfk q1 q2 q3 q4 hpb
          go_wp2_with (go_at_call 95; refine (HM.out _).mono ?_; rintro e w1 ⟨rfl, hd⟩; replace HO := HO.up hd; have c2 := Hcell.out _ HO; have f2 := HO.frozen 0 rfl)
          go_roundw
          case measure => simp [intOf]; omega
          case rel =>
            refine ⟨i + 1, hi + o1 + o2, upd g i s2, by omega, by go_num, by go_num, Q3, ⟨fun j => ?_⟩, ⟨?_⟩, ?_⟩
            · unfold upd; split
              · exact Q4.out
              · exact Hg.out j
            · have h1 := vW_upd g i s2 4 (by omega)
              rw [← Hfk.out] at h1
              have h2 := step_val h1 Q1.out HV.out
              show _ = _ + 38 * (vW _ i + MM ^ i * f (4 + i))
              rw [Nat.pow_succ, ← Hft.out, h2, Hp.out, Nat.mul_add, Nat.mul_left_comm 38, Nat.mul_comm 38 ft]; omega
            · have := HO.set 0 rfl i (.int .u64 (s2 : Nat))
              rw [wA_set] at this
              exact this
        · obtain rfl : i = 4 := by omega
          have hlt : vW g 4 < MM ^ 4 := vW_lt Hg.out 4
          have HL := left_any (vW g 4) cn
          have hag : aggN (vW g 4) = #[.int .u64 (g 0 : Nat), .int .u64 (g 1 : Nat), .int .u64 (g 2 : Nat), .int .u64 (g 3 : Nat)] := by
            unfold aggN
            rw [wd_vW Hg.out 4 0 (by omega), wd_vW Hg.out 4 1 (by omega), wd_vW Hg.out 4 2 (by omega), wd_vW Hg.out 4 3 (by omega)]
          have hres : (vW g 4 + MM ^ 4 * cn) % P25 = n * m % P25 := by
            have h8 := HV8.out
            rw [Nat.mod_eq_of_lt hn, show (8 : Nat) = 4 + 4 from rfl, vW_split, MM4] at h8
            rw [HV.out, ← h8, Nat.add_mul, Nat.mul_assoc, Nat.mul_left_comm 2 P25, ← Nat.add_assoc, Nat.add_comm (vW f 4) (P25 * _), Nat.add_assoc, Nat.mul_add_mod]
          rw [hag, hres] at HL
          have HL := Lib.hid (fun W => HL W hlt Hc.out)
          have c0 := HO.cell 0 rfl 0
          have c1 := HO.cell 0 rfl 1
          have c2 := HO.cell 0 rfl 2
          have c3 := HO.cell 0 rfl 3
          rw [wA_get .u64 4 g _ (by omega)] at c0 c1 c2 c3
          clear hres hag hlt HV HV8
          go_wp2_with (go_at_call 56; refine (HL.out _).mono ?_; rintro e w1 ⟨rfl, hd⟩; replace HO := HO.up hd; have d2 := HO.cell 2 rfl; have f2 := HO.frozen 2 rfl; unfold zero4 at d2; unfold aggN)
          exact bodyPost_ret (v := .agg (aggN (n * m % P25))) (by simp [results, Try.results65, go_sem, aggN, *]) rfl ⟨rfl, ((((HO.set 2 rfl 0 _).set 2 rfl 1 _).set 2 rfl 2 _).set 2 rfl 3 _).below⟩
end Go.Proofs.Ytdmpnogjpgoaaaa

set_option linter.unusedSimpArgs false
namespace Go.Proofs.Ytdmpnogjpgoaaaa
open Go.RowKit Go.Proofs.YtdmpnogjpgoaaaaW.PrintWords Go.Proofs.YtdmpnogjpgoaaaaW.PrintLast Go.Proofs.YtdmpnogjpgoaaaaW.PrintMore
/-- the power of the inverse, round by round -/
def iv (n : Nat) : Nat → Nat
  | 0 => 1
  | k + 1 => if k = 252 ∨ k = 250 then iv n k * iv n k % P25 else iv n k * iv n k % P25 * n % P25
def ex : Nat → Nat
  | 0 => 0
  | k + 1 => if k = 252 ∨ k = 250 then 2 * ex k else 2 * ex k + 1
theorem iv_lt (n : Nat) : ∀ k, iv n k < MM ^ 4
  | 0 => by show 1 < MM ^ 4; decide +kernel
  | k + 1 => by
    have h4 := MM4
    have hp := P25_pos
    unfold iv
    split
    · have := Nat.mod_lt (iv n k * iv n k) (show 0 < P25 by omega); omega
    · have := Nat.mod_lt (iv n k * iv n k % P25 * n) (show 0 < P25 by omega); omega
theorem iv_ex (n : Nat) : ∀ k, iv n k % P25 = n ^ ex k % P25
  | 0 => by simp [iv, ex]
  | k + 1 => by
    have ih := iv_ex n k
    have e2 : iv n k * iv n k % P25 = n ^ (2 * ex k) % P25 := by rw [Nat.mul_mod, ih, ← Nat.mul_mod, Nat.two_mul, Nat.pow_add]
    unfold iv ex
    split
    · rw [Nat.mod_mod, e2]
    · rw [Nat.mod_mod, e2, Nat.pow_succ, Nat.mul_mod, Nat.mod_mod, ← Nat.mul_mod]
theorem ex_255 : ex 255 = P25 - 2 := by decide +kernel
theorem iv_255 (n : Nat) : iv n 255 = n ^ (P25 - 2) % P25 := by
  have h := iv_ex n 255
  rw [ex_255] at h
  rw [← h]
  have : iv n 255 = iv n 254 * iv n 254 % P25 * n % P25 := by
    show (if 254 = 252 ∨ 254 = 250 then _ else _) = _
    rw [if_neg (by decide)]
  rw [this, Nat.mod_mod]
attribute [local irreducible] Calls
set_option maxHeartbeats 4000000 in
set_option maxRecDepth 100000 in
theorem inverse_any (n : Nat) (w : World) (hn : n < MM ^ 4) :
    Calls Try.prog 57 #[.agg (aggN n)] w fun e w' => e = .returned (.agg (aggN (n ^ (P25 - 2) % P25))) ∧ Below w.heap.size w w' := by
  have hu65 := Try.underlying67
  have hiv := iv_255 n
  generalize n ^ (P25 - 2) % P25 = R at *
  subst hiv
  unfold aggN
  go_enter Try.func57, Try.ntmps57
  go_wp2
  go_loopw [7] (fun i wr => ∃ k : Nat, k ≤ 255 ∧ i = .int .i64 k ∧ Own w [(w.heap.size + 2, .cells (aggN (iv n k)) 67 (0, 0)), (w.heap.size + 1, .cells zero4 67 (0, 0)), (w.heap.size, .cells (aggN n) 67 (0, 0))] wr) (fun i _ => (255 - intOf i).toNat)
  case atStart =>
    have e1 : aggN (iv n 0) = #[.int .u64 1, .int .u64 0, .int .u64 0, .int .u64 0] := by kernel_rfl
    rw [← e1]
    exact ⟨0, by omega, rfl, (((Own.start w).alloc (.cells (aggN n) 67)).alloc' (.cells zero4 67) (g := w.heap.size + 1) (by simp)).alloc' (.cells (aggN (iv n 0)) 67) (g := w.heap.size + 2) (by simp)⟩
  case round =>
    obtain ⟨k, hk, rfl, HO⟩ := hrel
    by_cases hlt : k < 255
    · have hlti : (k : Int) < 255 := by omega
      have hki : (0 : Int) ≤ (k : Int) := by omega
      have c0 := HO.cell 0 rfl
      have f0 := HO.frozen 0 rfl
      unfold aggN at c0
      have hlv := iv_lt n k
      have HT1 := Lib.hid (fun W => times_any (iv n k) (iv n k) W hlv hlv)
      have hl2 : iv n k * iv n k % P25 < MM ^ 4 := by have h4 := MM4; have hp := P25_pos; have := Nat.mod_lt (iv n k * iv n k) (show 0 < P25 by omega); omega
      have HT2 := Lib.hid (fun W => times_any (iv n k * iv n k % P25) n W hl2 hn)
      have Hs : Aside0 (iv n (k + 1) = if k = 252 ∨ k = 250 then iv n k * iv n k % P25 else iv n k * iv n k % P25 * n % P25) := ⟨rfl⟩
      clear hlv hl2
      generalize iv n k * iv n k % P25 = v2 at *
      generalize iv n k = v at *
      clear f0
      have f0 := HO.frozen 0 rfl
      by_cases hb : k = 252 ∨ k = 250
      · rw [if_pos hb] at Hs
        have hb1 : ((254 : Int) - (k : Int) != 2 && (254 : Int) - (k : Int) != 4) = false := by rcases hb with rfl | rfl <;> rfl
        rcases hb with rfl | rfl
        all_goals
          clear HT2 hb1
          go_wp2_with (go_at_call 65; refine (HT1.out _).mono ?_; rintro e w1 ⟨rfl, hd⟩; replace HO := HO.up hd; clear c0 f0; have c0 := HO.cell 0 rfl; have f0 := HO.frozen 0 rfl; (try clear cN); have cN := HO.cell 2 rfl; unfold aggN at *)
          go_roundw
          case measure => simp [intOf]
          case rel =>
            first | refine ⟨252 + 1, by omega, rfl, ?_⟩ | refine ⟨250 + 1, by omega, rfl, ?_⟩
            rw [Hs.out]
            exact (((HO.set 0 rfl 0 _).set 0 rfl 1 _).set 0 rfl 2 _).set 0 rfl 3 _
      · rw [if_neg hb] at Hs
        have hb1 : ((254 : Int) - (k : Int) != 2) = true := by rw [bne_iff_ne]; omega
        have hb2 : ((254 : Int) - (k : Int) != 4) = true := by rw [bne_iff_ne]; omega
        clear hb
        have tok : True := trivial
        go_wp2_with (first | (go_at_call 65; have _t := tok; clear _t; refine (HT1.out _).mono ?_; rintro e w1 ⟨rfl, hd⟩; replace HO := HO.up hd; clear c0 f0 tok; have c0 := HO.cell 0 rfl; have f0 := HO.frozen 0 rfl; (try clear cN); have cN := HO.cell 2 rfl; unfold aggN at *) | (go_at_call 65; refine (HT2.out _).mono ?_; rintro e w1 ⟨rfl, hd⟩; replace HO := ((((HO.set 0 rfl 0 (.int .u64 (wd v2 0 : Nat))).set 0 rfl 1 (.int .u64 (wd v2 1 : Nat))).set 0 rfl 2 (.int .u64 (wd v2 2 : Nat))).set 0 rfl 3 (.int .u64 (wd v2 3 : Nat))).up hd; clear c0 f0 cN; have c0 : ∀ j, w1.cell? ⟨w.heap.size + 2, j, none⟩ = (aggN v2)[j]? := HO.cell 0 rfl; have f0 := HO.frozen 0 rfl; unfold aggN at *))
        go_roundw
        case measure => simp [intOf]; omega
        case rel =>
          refine ⟨k + 1, by omega, by go_num, ?_⟩
          rw [Hs.out]
          exact (((HO.set 0 rfl 0 _).set 0 rfl 1 _).set 0 rfl 2 _).set 0 rfl 3 _
    · obtain rfl : k = 255 := by omega
      have c0 := HO.cell 0 rfl
      have c1 := HO.cell 1 rfl
      have f1 := HO.frozen 1 rfl
      unfold aggN at c0
      unfold zero4 at c1
      go_wp2
      exact bodyPost_ret (v := .agg (aggN (iv n 255))) (by simp [results, Try.results57, go_sem, aggN, *]) rfl ⟨rfl, ((((HO.set 1 rfl 0 _).set 1 rfl 1 _).set 1 rfl 2 _).set 1 rfl 3 _).below⟩
end Go.Proofs.Ytdmpnogjpgoaaaa

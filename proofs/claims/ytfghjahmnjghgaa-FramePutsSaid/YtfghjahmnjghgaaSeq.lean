import Derived.Test.YtfghjahmnjghgaaReg2
import Derived.Laws.Tables
import Derived.Laws.Rows
import Derived.Deep.WholeRow
import Derived.Deep.MidRow
/-! Operations of a region that draws its order, taken in one order. Blocks below B stay as they are, whatever is stored. -/
namespace Go.Proofs.Ytfghjahmnjghgaa
open Go.RowKit
theorem kw64 (n : Int) : IntKind.i64.wrap n = Go.RowKit.wrap64 n := by unfold Go.RowKit.wrap64; exact IntKind.wrap_i64 n
theorem kw32 (n : Int) : IntKind.i32.wrap n = Go.RowKit.wrap32 n := by unfold Go.RowKit.wrap32; exact IntKind.wrap_i32 n
section
variable {P : Program} {ops : Array Oper} {Q : Exit → Act → World → Prop} {md : Region.Mode} {ds : List Nat} {B : Nat}
/-- an allocation that may wait: its number, its slot, its type, its cells -/
abbrev DIt := Nat × Tmp × TypeId × Array Value
def inD (D : List DIt) (i : Nat) : Prop := ∃ d ∈ D, d.1 = i
def ptrV (g : Nat) : Value := .pointer (some ⟨g, 0, none⟩)
/-- the first of them that has not come up -/
def firstU (D : List DIt) (l : Array Bool) : Option DIt := D.find? (fun x => !l.getD x.1 true)
/-- Whatever order is picked from here on; behind every operation but those of ds the world has only grown; what lies below B stays; allocations of D wait until nothing else may come up, and then give any new block. -/
def wpB (P : Program) (md : Region.Mode) (ops : Array Oper) (Q : Exit → Act → World → Prop) (ds : List Nat) (B : Nat) (D : List DIt) (Lt : List Nat) : Nat → Array Bool → Act → World → Prop
  | 0, l, a, w => ∀ w1, Gr w w1 → Region.ready md ops l = [] ∧ Q .normal a w1
  | fuel + 1, l, a, w => ∀ w1, Gr w w1 → (Region.ready md ops l = [] → Q .normal a w1) ∧
    (∀ i ∈ Region.ready md ops l, ¬ inD D i → wpOp P ops Q i (fun a' w' => ((i ∉ ds → Gr w1 w') ∧ Below B w1 w') ∧ wpB P md ops Q ds B D Lt fuel (l.setIfInBounds i true) a' w') a w1) ∧
    (∀ d ∈ D, firstU D l = some d → (∀ j ∈ Region.ready md ops l, inD D j ∨ j ∈ Lt) → ∀ g, B ≤ g → w1.heap[g]? = some (.cells d.2.2.2 d.2.2.1 (0, 0)) → wpB P md ops Q ds B D Lt fuel (l.setIfInBounds d.1 true) (a.put (some d.2.1) (ptrV g)) w1)
variable {D : List DIt} {Lt : List Nat}
theorem wpB.up : ∀ {fuel : Nat} {l : Array Bool} {a : Act} {w w1 : World}, wpB P md ops Q ds B D Lt fuel l a w → Gr w w1 → wpB P md ops Q ds B D Lt fuel l a w1
  | 0, _, _, _, _, h, hg => fun w2 h2 => h w2 (hg.trans h2)
  | _ + 1, _, _, _, _, h, hg => fun w2 h2 => h w2 (hg.trans h2)
/-! ### allocations that come up early -/
def markE (l : Array Bool) : List (DIt × Nat) → Array Bool
  | [] => l
  | e :: E => (markE l E).setIfInBounds e.1.1 true
def putE (a : Act) : List (DIt × Nat) → Act
  | [] => a
  | e :: E => (putE a E).put (some e.1.2.1) (ptrV e.2)
theorem markE_set (l : Array Bool) (i : Nat) : ∀ E : List (DIt × Nat), (∀ e ∈ E, e.1.1 ≠ i) → markE (l.setIfInBounds i true) E = (markE l E).setIfInBounds i true
  | [], _ => rfl
  | e :: E, h => by
    show (markE _ E).setIfInBounds _ _ = ((markE l E).setIfInBounds _ _).setIfInBounds _ _
    rw [markE_set l i E (fun x hx => h x (List.mem_cons_of_mem _ hx)), Array.setIfInBounds_comm _ _ (Ne.symm (h e List.mem_cons_self))]
theorem putE_put (a : Act) (t : Tmp) (v : Value) : ∀ E : List (DIt × Nat), (∀ e ∈ E, e.1.2.1 ≠ t) → putE (a.put (some t) v) E = (putE a E).put (some t) v
  | [], _ => rfl
  | e :: E, h => by
    show (putE _ E).put _ _ = ((putE a E).put _ _).put _ _
    rw [putE_put a t v E (fun x hx => h x (List.mem_cons_of_mem _ hx)), Act.put_comm _ _ _ (fun d hd he => h e List.mem_cons_self (by
      have h1 := Option.some.inj hd
      have h2 := Option.some.inj he
      rw [h2, h1]))]
theorem markE_get (l : Array Bool) (j : Nat) (d : Bool) : ∀ E : List (DIt × Nat), (∀ e ∈ E, e.1.1 ≠ j) → (markE l E).getD j d = l.getD j d
  | [], _ => rfl
  | e :: E, h => (getD_set_ne d (h e List.mem_cons_self)).trans (markE_get l j d E (fun x hx => h x (List.mem_cons_of_mem _ hx)))
theorem markE_true (l : Array Bool) (j : Nat) (h : l.getD j false = true) : ∀ E : List (DIt × Nat), (markE l E).getD j false = true
  | [] => h
  | _ :: E => getD_set_true (markE_true l j h E)
theorem getD_tf {l : Array Bool} {j : Nat} (h : l.getD j true = false) : l.getD j false = false := by
  rcases Nat.lt_or_ge j l.size with h' | h'
  · simp [h'] at h ⊢; exact h
  · simp [Array.getElem?_eq_none h'] at h
theorem markE_un (l : Array Bool) (j : Nat) : ∀ E : List (DIt × Nat), (markE l E).getD j true = false → l.getD j true = false ∧ ∀ e ∈ E, e.1.1 ≠ j
  | [], h => ⟨h, by simp⟩
  | e :: E, h => by
    have hne : e.1.1 ≠ j := fun he => by
      subst he
      have h2 : ((markE l E).setIfInBounds e.1.1 true).getD e.1.1 true = false := h
      rcases Nat.lt_or_ge e.1.1 (markE l E).size with h' | h'
      · simp [h'] at h2
      · simp at h2
    have h3 : ((markE l E).setIfInBounds e.1.1 true).getD j true = false := h
    rw [getD_set_ne true hne] at h3
    obtain ⟨h4, h5⟩ := markE_un l j E h3
    exact ⟨h4, fun x hx => by rcases List.mem_cons.1 hx with rfl | hx; exact hne; exact h5 x hx⟩
/-- one of them taken out -/
theorem pullE {hs : ∀ d ∈ D, ∀ d' ∈ D, d.1 ≠ d'.1 → d.2.1 ≠ d'.2.1} (l : Array Bool) (a : Act) (e : DIt × Nat) : ∀ E : List (DIt × Nat), e ∈ E → (E.map (·.1.1)).Nodup → (∀ x ∈ E, x.1 ∈ D) →
    ∃ E', E'.length + 1 = E.length ∧ (∀ x ∈ E', x ∈ E ∧ x.1.1 ≠ e.1.1) ∧ (E'.map (·.1.1)).Nodup ∧ markE l E = markE (l.setIfInBounds e.1.1 true) E' ∧ putE a E = putE (a.put (some e.1.2.1) (ptrV e.2)) E'
  | [], h, _, _ => by simp at h
  | x :: xs, h, hn, hd => by
    simp only [List.map_cons, List.nodup_cons] at hn
    rcases List.mem_cons.1 h with rfl | h
    · have hne : ∀ y ∈ xs, y.1.1 ≠ e.1.1 := fun y hy he => hn.1 (List.mem_map.2 ⟨y, hy, he⟩)
      refine ⟨xs, rfl, fun y hy => ⟨List.mem_cons_of_mem _ hy, hne y hy⟩, hn.2, (markE_set l _ xs hne).symm, (putE_put a _ _ xs (fun y hy => hs _ (hd y (List.mem_cons_of_mem _ hy)) _ (hd e List.mem_cons_self) (hne y hy))).symm⟩
    · obtain ⟨E', h1, h2, h3, h4, h5⟩ := pullE (hs := hs) l a e xs h hn.2 (fun y hy => hd y (List.mem_cons_of_mem _ hy))
      have hxe : x.1.1 ≠ e.1.1 := fun he => hn.1 (List.mem_map.2 ⟨e, h, he.symm⟩)
      refine ⟨x :: E', by simp [h1], fun y hy => ?_, ?_, ?_, ?_⟩
      · rcases List.mem_cons.1 hy with rfl | hy
        · exact ⟨List.mem_cons_self, hxe⟩
        · exact ⟨List.mem_cons_of_mem _ (h2 y hy).1, (h2 y hy).2⟩
      · simp only [List.map_cons, List.nodup_cons]
        exact ⟨fun hm => by
          obtain ⟨y, hy, he⟩ := List.mem_map.1 hm
          exact hn.1 (List.mem_map.2 ⟨y, (h2 y hy).1, he⟩), h3⟩
      · show (markE l xs).setIfInBounds _ _ = (markE _ E').setIfInBounds _ _
        rw [h4]
      · show (putE a xs).put _ _ = (putE _ E').put _ _
        rw [h5]
/-- what is put to a slot that has nothing to do with an operation may as well be put ahead -/
theorem wpOp_fwd {j : Nat} {oi oj : Oper} (v : Value) (hj : ops[j]? = some oj) (hap : oi.apart ops oj = true) (hsj : ∀ cs b, oj.op ≠ .select cs b)
    (hQ : ∀ c a w, Q (.panic c) a w → Q (.panic c) (a.put oi.dst v) w) {K : Act → World → Prop} {a : Act} {w : World}
    (h : wpOp P ops Q j K a w) : wpOp P ops Q j (fun a' w' => ∃ a0, a' = a0.put oi.dst v ∧ K a0 w') (a.put oi.dst v) w := by
  obtain ⟨h1, h2, h3⟩ := Oper.apart_spec hap
  unfold wpOp at *
  simp only [hj] at *
  rw [wanted_put oj a oi.dst v h1]
  split
  · rename_i hw
    simp only [hw, if_true] at h
    rcases h with h | ⟨hasks, hlets⟩
    case inr => exact .inr ⟨by unfold Oper.asks at *; rw [execOp_put oj hsj a oi.dst v h1]; exact hasks, hlets⟩
    refine .inl ?_
    unfold Oper.wp at *
    rw [execOp_put oj hsj a oi.dst v h1]
    generalize (execOp a.eval oj).run P w = r at *
    cases r with
    | ok n w' =>
      cases n <;> simp only [Oper.upon] at h ⊢
      case value u => exact ⟨_, Act.put_comm a v u h2, h⟩
      case skip => exact ⟨_, Act.put_comm a v undef h2, h⟩
      case defer d => exact ⟨_, by rw [← Act.put_comm _ v undef h2, Act.put_defers], h⟩
      case enter f args =>
        refine Calls.mono h fun e w'' he => ?_
        cases e with
        | returned u => exact ⟨_, Act.put_comm a v u h2, he⟩
        | panicked c => exact hQ _ _ _ he
        | outgrown => exact he
      case row row args => exact Rows.mono h fun u w'' he => ⟨_, Act.put_comm a v u h2, he⟩
    | halt x w' =>
      cases x <;> simp only [Oper.upon] at h ⊢
      case panic u => exact hQ _ _ _ h
  · rename_i hw
    simp only [hw] at h
    exact ⟨_, Act.put_comm a v undef h2, h⟩
theorem wpOp_fwdE (hsel : ∀ (j : Nat) (o : Oper) cs b, ops[j]? = some o → o.op ≠ .select cs b) (hQ : ∀ (t : Tmp) v c a w, Q (.panic c) a w → Q (.panic c) (Act.put a (some t) v) w) {j : Nat} {K : Act → World → Prop} {a : Act} {w : World} :
    ∀ E : List (DIt × Nat), (∀ e ∈ E, ∃ oi oj, ops[e.1.1]? = some oi ∧ ops[j]? = some oj ∧ oi.dst = some e.1.2.1 ∧ oi.apart ops oj = true) → wpOp P ops Q j K a w → wpOp P ops Q j (fun a' w' => ∃ a0, a' = putE a0 E ∧ K a0 w') (putE a E) w
  | [], _, h => wpOp_mono (fun a' w' h => ⟨a', rfl, h⟩) h
  | e :: E, hE, h => by
    have ih := wpOp_fwdE hsel hQ E (fun x hx => hE x (List.mem_cons_of_mem _ hx)) h
    obtain ⟨oi, oj, _, hj, hd, hap⟩ := hE e List.mem_cons_self
    have h2 := wpOp_fwd (ptrV e.2) hj hap (fun cs b => hsel j oj cs b hj) (fun c a w h => by rw [hd]; exact hQ _ _ _ _ _ h) ih
    rw [hd] at h2
    refine wpOp_mono (fun a' w' h => ?_) h2
    obtain ⟨a0, rfl, a1, rfl, hk⟩ := h
    exact ⟨a1, rfl, hk⟩
/-- what must hold of the allocations that wait -/
structure DOK (P : Program) (md : Region.Mode) (ops : Array Oper) (ds : List Nat) (D : List DIt) (Lt : List Nat) : Prop where
  sel : ∀ (j : Nat) (o : Oper) cs b, ops[j]? = some o → o.op ≠ .select cs b
  op : ∀ d ∈ D, ∃ o, ops[d.1]? = some o ∧ o.dst = some d.2.1 ∧ o.guard = none ∧ (∀ e ∈ o.after, Region.binds md e = false)
  run : ∀ d ∈ D, ∀ o, ops[d.1]? = some o → ∀ (ev : Operand → Value) w, (execOp ev o).run P w = .ok (.value (ptrV w.heap.size)) (w.alloc (.cells d.2.2.2 d.2.2.1))
  slot : ∀ d ∈ D, ∀ d' ∈ D, d.1 ≠ d'.1 → d.2.1 ≠ d'.2.1
  len : ∀ E : List (DIt × Nat), (E.map (·.1.1)).Nodup → (∀ x ∈ E, x.1 ∈ D) → E.length ≤ D.length
  uniq : ∀ d ∈ D, ∀ d' ∈ D, d.1 = d'.1 → d = d'
  apart : ∀ d ∈ D, ∀ j oj oi, ops[j]? = some oj → ops[d.1]? = some oi → j ≠ d.1 → (∀ e ∈ oj.after, Region.binds md e = true → e.on ≠ d.1) → oi.apart ops oj = true
  all : ∀ p o, ops[p]? = some o → ¬ inD D p → (∃ e ∈ o.after, Region.binds md e = true ∧ inD D e.on) → (∀ d ∈ D, reachB md ops d.1 ops.size p = true) ∧ ∀ q oq, ops[q]? = some oq → ¬ inD D q → q ∉ Lt → q ≠ p → reachB md ops q ops.size p = true ∨ reachB md ops p ops.size q = true
  st : ∀ p ∈ ds, ∀ d ∈ D, reachB md ops d.1 ops.size p = true
  lt : ∀ i ∈ Lt, ∀ r o, ops[r]? = some o → (∃ e ∈ o.after, Region.binds md e = true ∧ e.on = i) → ∀ d ∈ D, reachB md ops d.1 ops.size r = true
theorem wpOp_val {i : Nat} {o : Oper} {v : Value} {a : Act} {w w2 : World} {K : Act → World → Prop} (hi : ops[i]? = some o) (hw : Region.wanted o (yielded ops a.tmps) = true) (hr : (execOp a.eval o).run P w = .ok (.value v) w2) (h : K (a.put o.dst v) w2) : wpOp P ops Q i K a w := by
  unfold wpOp
  simp only [hi, hw, if_true]
  refine .inl ?_
  unfold Oper.wp
  rw [hr]
  exact h
theorem DOK.ready (hD : DOK P md ops ds D Lt) {d : DIt} (hd : d ∈ D) {l : Array Bool} (h : l.getD d.1 true = false) : d.1 ∈ Region.ready md ops l := by
  obtain ⟨o, ho, _, _, hn⟩ := hD.op d hd
  exact mem_ready.2 ⟨h, o, ho, fun e he hb => by rw [hn e he] at hb; cases hb⟩
theorem markE_closed (hD : DOK P md ops ds D Lt) (l : Array Bool) (hc : LClosed md ops l) : ∀ E : List (DIt × Nat), (∀ x ∈ E, x.1 ∈ D ∧ l.getD x.1.1 true = false) → (E.map (·.1.1)).Nodup → LClosed md ops (markE l E)
  | [], _, _ => hc
  | e :: E, h, hn => by
    simp only [List.map_cons, List.nodup_cons] at hn
    have hne : ∀ y ∈ E, y.1.1 ≠ e.1.1 := fun y hy he => hn.1 (List.mem_map.2 ⟨y, hy, he⟩)
    refine (markE_closed hD l hc E (fun x hx => h x (List.mem_cons_of_mem _ hx)) hn.2).set (hD.ready (h e List.mem_cons_self).1 ?_)
    rw [markE_get l _ _ E hne]
    exact (h e List.mem_cons_self).2
theorem markE_in {E : List (DIt × Nat)} (l : Array Bool) {j : Nat} (h1 : (markE l E).getD j false = true) (h2 : ¬ l.getD j false = true) : ∃ e ∈ E, e.1.1 = j := by
  by_cases h : ∃ e ∈ E, e.1.1 = j
  · exact h
  · rw [markE_get l j false E (fun e he hj => h ⟨e, he, hj⟩)] at h1
    exact absurd h1 h2
theorem gr_size {w w1 : World} (h : Gr w w1) (hB : B ≤ w.heap.size) : B ≤ w1.heap.size := by have := Below.size h; omega
theorem gr_bel {w w1 : World} (h : Gr w w1) (hB : B ≤ w.heap.size) : Below B w w1 := Below.mono h hB
theorem ready_un {l : Array Bool} {p : Nat} (h : p ∈ Region.ready md ops l) : l.getD p true = false := (mem_ready.1 h).1
theorem head_mem {l : List Nat} {i : Nat} (h : l.head? = some i) : i ∈ l := by cases l with
  | nil => simp at h
  | cons x xs => simp at h; subst h; exact List.mem_cons_self
/-- The allocations may come up early all the same. -/
theorem defer (hD : DOK P md ops ds D Lt) (hQ : ∀ (t : Tmp) v c a w, Q (.panic c) a w → Q (.panic c) (Act.put a (some t) v) w) : ∀ (n fr fs : Nat) (E : List (DIt × Nat)) (l : Array Bool) (a : Act) (w w' : World), fr + fs ≤ n → fs + D.length ≤ fr + E.length →
    wpB P md ops Q ds B D Lt fs l a w → Gr w w' → B ≤ w.heap.size → LClosed md ops l → (E.map (·.1.1)).Nodup →
    (∀ x ∈ E, (x.1 ∈ D ∧ l.getD x.1.1 true = false) ∧ B ≤ x.2 ∧ w'.heap[x.2]? = some (.cells x.1.2.2.2 x.1.2.2.1 (0, 0))) → wpAny P md ops Q fr (markE l E) (putE a E) w' := by
  intro n
  induction n with
  | zero =>
    intro fr fs E l a w w' hn hf h hg hB hc hnd hE
    obtain rfl : fr = 0 := by omega
    obtain rfl : fs = 0 := by omega
    obtain ⟨h1, h2⟩ := h w' hg
    cases E with
    | nil => exact ⟨h1, h2⟩
    | cons e E =>
      have := hD.ready (hE e List.mem_cons_self).1.1 (hE e List.mem_cons_self).1.2
      rw [h1] at this; cases this
  | succ n ih =>
    intro fr fs E l a w w' hn hf h hg hB hc hnd hE
    by_cases hA : ∃ e ∈ E, firstU D l = some e.1 ∧ ∀ j ∈ Region.ready md ops l, inD D j ∨ j ∈ Lt
    · obtain ⟨e, he, hh, hall⟩ := hA
      obtain ⟨⟨hed, hun⟩, hge, hblk⟩ := hE e he
      cases fs with
      | zero => have hr0 := hD.ready hed hun; rw [(h w' hg).1] at hr0; cases hr0
      | succ fs =>
        have h' := (h w' hg).2.2 e.1 hed hh hall e.2 hge hblk
        obtain ⟨E', g1, g2, g3, g4, g5⟩ := pullE (hs := hD.slot) l a e E he hnd (fun x hx => (hE x hx).1.1)
        rw [g4, g5]
        refine ih fr fs E' _ _ w' w' (by omega) (by omega) h' (Gr.refl _) (gr_size hg hB) (hc.set (hD.ready hed hun)) g3 (fun x hx => ?_)
        obtain ⟨⟨k1, k2⟩, k3, k4⟩ := hE x (g2 x hx).1
        exact ⟨⟨k1, by rw [getD_set_ne true (Ne.symm (g2 x hx).2)]; exact k2⟩, k3, k4⟩
    · have hlc := markE_closed hD l hc E (fun x hx => (hE x hx).1) hnd
      -- no early one while everything that may come up waits
      have hE0 : (∀ q ∈ Region.ready md ops l, ¬ inD D q → q ∉ Lt → False) → (∀ d ∈ D, (markE l E).getD d.1 true = false → False) → E = [] := fun k1 k2 => by
        cases E with
        | nil => rfl
        | cons e E =>
          exfalso
          have hall : ∀ j ∈ Region.ready md ops l, inD D j ∨ j ∈ Lt := fun j hj => Classical.byContradiction fun hn => k1 j hj (fun h => hn (.inl h)) (fun h => hn (.inr h))
          obtain ⟨d, hi⟩ : ∃ d, firstU D l = some d := by
            cases hh : firstU D l with
            | some x => exact ⟨x, rfl⟩
            | none =>
              have := List.find?_eq_none.1 hh e.1 (hE e List.mem_cons_self).1.1
              rw [(hE e List.mem_cons_self).1.2] at this; simp at this
          have hd : d ∈ D := List.mem_of_find?_eq_some hi
          have hdu : l.getD d.1 true = false := by have := List.find?_some hi; simpa using this
          by_cases hin : ∃ x ∈ e :: E, x.1.1 = d.1
          · obtain ⟨x, hx, hxd⟩ := hin
            have hxe := hD.uniq x.1 (hE x hx).1.1 d hd hxd
            exact hA ⟨x, hx, by rw [hxe]; exact hi, hall⟩
          · refine k2 d hd ?_
            rw [markE_get l d.1 true (e :: E) (fun x hx hxd => hin ⟨x, hx, hxd⟩)]
            exact hdu
      have hq : ∀ q ∈ Region.ready md ops l, ¬ inD D q → q ∈ Region.ready md ops (markE l E) := fun q hq hqd => by
        obtain ⟨h0, o, ho, hall⟩ := mem_ready.1 hq
        refine mem_ready.2 ⟨?_, o, ho, fun e he hb => markE_true l _ (hall e he hb) E⟩
        rw [markE_get l q true E (fun x hx hxq => hqd ⟨x.1, (hE x hx).1.1, hxq⟩)]
        exact h0
      have hdq : ∀ d ∈ D, (markE l E).getD d.1 true = false → d.1 ∈ Region.ready md ops (markE l E) := fun d hd hun => hD.ready hd hun
      cases fr with
      | zero =>
        have hle := hD.len E hnd (fun x hx => (hE x hx).1.1)
        obtain rfl : fs = 0 := by omega
        obtain ⟨h1, h2⟩ := h w' hg
        cases E with
        | nil => exact ⟨h1, h2⟩
        | cons e E =>
          have := hD.ready (hE e List.mem_cons_self).1.1 (hE e List.mem_cons_self).1.2
          rw [h1] at this; cases this
      | succ fr =>
        refine ⟨fun hr => ?_, fun p hp => ?_⟩
        · obtain rfl : E = [] := hE0 (fun q h1 h2 _ => by have := hq q h1 h2; rw [hr] at this; cases this) (fun d h1 h2 => by have := hdq d h1 h2; rw [hr] at this; cases this)
          cases fs with
          | zero => exact (h w' hg).2
          | succ fs => exact (h w' hg).1 hr
        · by_cases hpD : inD D p
          · obtain ⟨d, hd, rfl⟩ := hpD
            obtain ⟨o, ho, hdst, hgd, _⟩ := hD.op d hd
            have hun := ready_un hp
            obtain ⟨hun1, hne⟩ := markE_un l d.1 E hun
            refine wpOp_val ho (by unfold Region.wanted; simp [hgd]) (hD.run d hd o ho _ w') ?_
            rw [hdst]
            refine ih fr fs ((d, w'.heap.size) :: E) l a w (w'.alloc (.cells d.2.2.2 d.2.2.1)) (by omega) (by simp; omega) h (hg.trans ((Below.refl _ _).alloc (Nat.le_refl _) _)) hB hc ?_ (fun x hx => ?_)
            · simp only [List.map_cons, List.nodup_cons]
              exact ⟨fun hm => by obtain ⟨y, hy, he⟩ := List.mem_map.1 hm; exact hne y hy he, hnd⟩
            · rcases List.mem_cons.1 hx with rfl | hx
              · exact ⟨⟨hd, hun1⟩, by have := gr_size hg hB; exact this, heap_alloc_new _ _⟩
              · obtain ⟨k1, k2, k3⟩ := hE x hx
                exact ⟨k1, k2, (Below.heap_alloc _ _ _ (Array.getElem?_eq_some_iff.1 k3).1).trans k3⟩
          · have hpl : p ∈ Region.ready md ops l := by
              refine Classical.byContradiction fun hnp => ?_
              obtain ⟨h0, o, ho, hall⟩ := mem_ready.1 hp
              obtain ⟨hun1, hne⟩ := markE_un l p E h0
              obtain ⟨e, he, hb, hnl⟩ : ∃ e ∈ o.after, Region.binds md e = true ∧ ¬ l.getD e.on false = true := by
                refine Classical.byContradiction fun hno => hnp (mem_ready.2 ⟨hun1, o, ho, fun e he hb => Classical.byContradiction fun hx => hno ⟨e, he, hb, hx⟩⟩)
              obtain ⟨x, hx, hxe⟩ := markE_in l (hall e he hb) hnl
              obtain ⟨ha, hb2⟩ := hD.all p o ho hpD ⟨e, he, hb, x.1, (hE x hx).1.1, hxe⟩
              have hEn : E = [] := hE0 (fun q hq1 hq2 hq3 => by
                obtain ⟨q0, oq, hoq, _⟩ := mem_ready.1 hq1
                have hqp : q ≠ p := fun he => hnp (he ▸ hq1)
                rcases hb2 q oq hoq hq2 hq3 hqp with hr | hr
                · exact reach_not_ready hlc hr (ready_un (hq q hq1 hq2)) hp
                · exact reach_not_ready hc hr hun1 hq1) (fun d hd hun => reach_not_ready hlc (ha d hd) hun hp)
              subst hEn
              cases hx
            cases fs with
            | zero => rw [(h w' hg).1] at hpl; cases hpl
            | succ fs =>
              have hpo := (h w' hg).2.1 p hpl hpD
              have hneE : ∀ x ∈ E, x.1.1 ≠ p := fun x hx hxp => hpD ⟨x.1, (hE x hx).1.1, hxp⟩
              obtain ⟨_, oj, hoj, halll⟩ := mem_ready.1 hpl
              have hfw := wpOp_fwdE hD.sel hQ E (fun x hx => by
                obtain ⟨oi, hoi, hdst, _, _⟩ := hD.op x.1 (hE x hx).1.1
                refine ⟨oi, oj, hoi, hoj, hdst, hD.apart x.1 (hE x hx).1.1 p oj oi hoj hoi (Ne.symm (hneE x hx)) (fun e he hb hon => ?_)⟩
                have h1 := halll e he hb
                rw [hon] at h1
                have h2 := getD_tf (hE x hx).1.2
                rw [h2] at h1; cases h1) hpo
              refine wpOp_mono (fun a' w'' hh => ?_) hfw
              obtain ⟨a0, rfl, ⟨hgr, hbl⟩, hk⟩ := hh
              rw [← markE_set l p E hneE]
              refine ih fr fs E _ a0 w'' w'' (by omega) (by omega) hk (Gr.refl _) (by have := hbl.size; have := gr_size hg hB; omega) (hc.set hpl) hnd (fun x hx => ?_)
              obtain ⟨⟨k1, k2⟩, k3, k4⟩ := hE x hx
              have hpds : p ∉ ds := fun hm => reach_not_ready hc (hD.st p hm x.1 k1) k2 hpl
              exact ⟨⟨k1, by rw [getD_set_ne true (Ne.symm (hneE x hx))]; exact k2⟩, k3, ((hgr hpds).block _ (Array.getElem?_eq_some_iff.1 k4).1).trans k4⟩
/-- how many are not listed -/
def cntU (l : Array Bool) : Nat := l.toList.countP (fun b => !b)
theorem cntU_set {l : Array Bool} {i : Nat} (h : l.getD i true = false) : cntU (l.setIfInBounds i true) + 1 = cntU l := by
  unfold cntU
  have hlt : i < l.size := by
    rcases Nat.lt_or_ge i l.size with h' | h'
    · exact h'
    · simp [Array.getElem?_eq_none h'] at h
  rw [Array.toList_setIfInBounds, List.countP_set (by simpa using hlt)]
  have hf : l.toList[i]'(by simpa using hlt) = false := by simpa [hlt] using h
  have hp : 0 < l.toList.countP (fun b => !b) := List.countP_pos_iff.2 ⟨false, by rw [← hf]; exact List.getElem_mem _, rfl⟩
  rw [hf]
  simp only [Bool.not_false, Bool.not_true, if_true, Bool.false_eq_true, if_false]
  omega
theorem wpAny_less : ∀ (n : Nat) (l : Array Bool) (a : Act) (w : World), cntU l ≤ n → wpAny P md ops Q (n + 1) l a w → wpAny P md ops Q n l a w
  | 0, l, a, w, hc, h => by
    have hr : Region.ready md ops l = [] := by
      cases hr : Region.ready md ops l with
      | nil => rfl
      | cons x xs =>
        have := cntU_set (ready_un (md := md) (ops := ops) (l := l) (p := x) (by rw [hr]; exact List.mem_cons_self))
        omega
    exact ⟨hr, h.1 hr⟩
  | n + 1, l, a, w, hc, h => ⟨h.1, fun i hi => wpOp_mono (fun a' w' h' => wpAny_less n _ a' w' (by have := cntU_set (ready_un hi); omega) h') (h.2 i hi)⟩
theorem wpAny_lessD : ∀ (d n : Nat) (l : Array Bool) (a : Act) (w : World), cntU l ≤ n → wpAny P md ops Q (n + d) l a w → wpAny P md ops Q n l a w
  | 0, _, _, _, _, _, h => h
  | d + 1, n, l, a, w, hc, h => wpAny_lessD d n l a w hc (wpAny_less (n + d) l a w (by omega) h)
theorem LClosed_none (n : Nat) : LClosed md ops (Array.replicate n false) := fun j _ _ h => by
  exfalso
  rcases Nat.lt_or_ge j n with h' | h'
  · simp [h'] at h
  · simp [h'] at h
theorem cntU_none (n : Nat) : cntU (Array.replicate n false) = n := by unfold cntU; rw [Array.toList_replicate]; simp [List.countP_replicate]
theorem wpAny_of_D (hD : DOK P md ops ds D Lt) (hQ : ∀ (t : Tmp) v c a w, Q (.panic c) a w → Q (.panic c) (Act.put a (some t) v) w) (n : Nat) (a : Act) (w : World) (hB : B ≤ w.heap.size)
    (h : wpB P md ops Q ds B D Lt n (Array.replicate n false) a w) : wpAny P md ops Q n (Array.replicate n false) a w :=
  wpAny_lessD D.length n _ a w (by rw [cntU_none]; omega) (defer hD hQ _ (n + D.length) n [] _ a w w (Nat.le_refl _) (by simp) h (Gr.refl _) hB (LClosed_none n) (by simp) (by simp))
/-- What gives v in every world that has grown is taken first, if all stores hang on it. -/
theorem wpB_first {i : Nat} {oi : Oper} {v : Value} (hi : ops[i]? = some oi) (hsel : ∀ (j : Nat) (o : Oper) cs b, ops[j]? = some o → o.op ≠ .select cs b)
    (hQ : ∀ c a w, Q (.panic c) (a.put oi.dst v) w → Q (.panic c) a w) (n : Nat) :
    ∀ (fuel : Nat) (listed : Array Bool) (a : Act) (w : World),
      (∀ j oj, ops[j]? = some oj → j ≠ i → listed.getD j true = false → (∀ e ∈ oj.after, Region.binds md e = true → e.on ≠ i) → oi.apart ops oj = true) →
      LClosed md ops listed → (∀ d ∈ ds, listed.getD d true = false → reachB md ops i n d = true) →
      (¬ inD D i ∧ i ∉ Lt) → i ∈ Region.ready md ops listed → YG P ops oi v a w → B ≤ w.heap.size →
      wpB P md ops Q ds B D Lt fuel (listed.setIfInBounds i true) (a.put oi.dst v) w → wpB P md ops Q ds B D Lt (fuel + 1) listed a w := by
  intro fuel
  induction fuel with
  | zero =>
    intro listed a w _ _ _ hiD hr hy hB H w1 hg
    refine ⟨fun h => (by rw [h] at hr; cases hr), fun j hj hjD => ?_, fun d _ _ hall => ((hall i hr).elim hiD.1 hiD.2).elim⟩
    by_cases hji : j = i
    · subst hji; exact (hy.up hg).wpOp hi (fun w' hg' => ⟨⟨fun _ => hg', gr_bel hg' (gr_size hg hB)⟩, H.up (hg.trans hg')⟩)
    · have := ready_mono hj hji
      rw [(H w1 hg).1] at this
      cases this
  | succ fuel ih =>
    intro listed a w hfree hc hd hiD hr hy hB H w1 hg
    refine ⟨fun h => (by rw [h] at hr; cases hr), fun j hj hjD => ?_, fun d _ _ hall => ((hall i hr).elim hiD.1 hiD.2).elim⟩
    by_cases hji : j = i
    · subst hji; exact (hy.up hg).wpOp hi (fun w' hg' => ⟨⟨fun _ => hg', gr_bel hg' (gr_size hg hB)⟩, H.up (hg.trans hg')⟩)
    · have h1 := (H w1 hg).2.1 j (ready_mono hj hji) hjD
      obtain ⟨hjun, oj, hoj, hall⟩ := mem_ready.1 hj
      have hiun := (mem_ready.1 hr).1
      have hnot : ∀ e ∈ oj.after, Region.binds md e = true → e.on ≠ i := fun e he hb heq => by
        have h1 := hall e he hb
        rw [heq] at h1
        rcases Nat.lt_or_ge i listed.size with h' | h'
        · simp [h'] at hiun h1; rw [hiun] at h1; cases h1
        · simp [Array.getElem?_eq_none h'] at h1
      have hjd : j ∉ ds := fun hm => reach_not_ready hc (hd j hm hjun) hiun hj
      have h2 := wpOp_putG hoj (hfree j oj hoj hji hjun hnot) (fun cs b => hsel i oi cs b hi) (fun cs b => hsel j oj cs b hoj) hQ h1
      have hfree' : ∀ k ok, ops[k]? = some ok → k ≠ i → (listed.setIfInBounds j true).getD k true = false →
          (∀ e ∈ ok.after, Region.binds md e = true → e.on ≠ i) → oi.apart ops ok = true := fun k ok hk hki hun hno => by
        refine hfree k ok hk hki ?_ hno
        by_cases hjk : j = k
        · subst hjk; exact hjun
        · rw [getD_set_ne true hjk] at hun; exact hun
      have hd' : ∀ d ∈ ds, (listed.setIfInBounds j true).getD d true = false → reachB md ops i n d = true := fun d hm hun => by
        refine hd d hm ?_
        by_cases hjk : j = d
        · subst hjk; exact hjun
        · rw [getD_set_ne true hjk] at hun; exact hun
      refine wpOp_mono (fun a' w' h3 => ⟨h3.2.1, ih (listed.setIfInBounds j true) a' w' hfree' (hc.set hj) hd' hiD (ready_mono hr (Ne.symm hji)) ((hy.up (hg.trans (h3.2.1.1 hjd))).of_same h3.1.1 h3.1.2) ?_ ?_⟩) h2
      · exact gr_size (hg.trans (h3.2.1.1 hjd)) hB
      · rw [Array.setIfInBounds_comm _ _ hji]
        exact h3.2.2
/-- An operation that gives v in every world in which what lies below B is as in w. -/
def YB (P : Program) (ops : Array Oper) (B : Nat) (o : Oper) (v : Value) (a : Act) (w : World) : Prop :=
  (Region.wanted o (yielded ops a.tmps) = true ∧ ∀ w1, Below B w w1 → RunG P w1 v ((execOp a.eval o).run P w1)) ∨
  (Region.wanted o (yielded ops a.tmps) = false ∧ v = undef)
theorem YB.toG {o : Oper} {v : Value} {a : Act} {w : World} (h : YB P ops B o v a w) (hB : B ≤ w.heap.size) : YG P ops o v a w :=
  h.imp (fun h => ⟨h.1, fun w1 hg => h.2 w1 (gr_bel hg hB)⟩) id
theorem YB.up {o : Oper} {v : Value} {a : Act} {w w1 : World} (h : YB P ops B o v a w) (hg : Below B w w1) : YB P ops B o v a w1 :=
  h.imp (fun h => ⟨h.1, fun w2 h2 => h.2 w2 (hg.trans h2)⟩) id
theorem YB.of_same {o : Oper} {v : Value} {a a' : Act} {w : World} (hy : YB P ops B o v a w) (he : execOp a'.eval o = execOp a.eval o)
    (hw : Region.wanted o (yielded ops a'.tmps) = Region.wanted o (yielded ops a.tmps)) : YB P ops B o v a' w := by
  unfold YB at *
  rw [he, hw]
  exact hy
theorem find_congr' {α : Type} {p q : α → Bool} : ∀ {l : List α}, (∀ x ∈ l, p x = q x) → l.find? p = l.find? q
  | [], _ => rfl
  | x :: xs, h => by
    simp only [List.find?_cons]
    rw [h x List.mem_cons_self, find_congr' (fun y hy => h y (List.mem_cons_of_mem _ hy))]
theorem wpB_any {i : Nat} {oi : Oper} {v : Value} (hi : ops[i]? = some oi) (hsel : ∀ (j : Nat) (o : Oper) cs b, ops[j]? = some o → o.op ≠ .select cs b)
    (hQ : ∀ c a w, Q (.panic c) (a.put oi.dst v) w → Q (.panic c) a w) (hDK : D = [] ∨ DOK P md ops ds D Lt) :
    ∀ (fuel : Nat) (listed : Array Bool) (a : Act) (w : World),
      (∀ j oj, ops[j]? = some oj → j ≠ i → listed.getD j true = false → (∀ e ∈ oj.after, Region.binds md e = true → e.on ≠ i) → oi.apart ops oj = true) →
      LClosed md ops listed → ¬ inD D i → i ∈ Region.ready md ops listed → YB P ops B oi v a w → B ≤ w.heap.size →
      wpB P md ops Q ds B D Lt fuel (listed.setIfInBounds i true) (a.put oi.dst v) w → wpB P md ops Q ds B D Lt (fuel + 1) listed a w := by
  intro fuel
  induction fuel with
  | zero =>
    intro listed a w _ hc hiD hr hy hB H w1 hg
    refine ⟨fun h => (by rw [h] at hr; cases hr), fun j hj hjD => ?_, fun d hd hf _ g _ _ => ?_⟩
    case refine_2 =>
      have hdi : d.1 ≠ i := fun he => hiD ⟨d, hd, he⟩
      rcases hDK with rfl | hDK
      · cases hd
      have hdu : listed.getD d.1 true = false := by have := List.find?_some hf; simpa using this
      have := ready_mono (hDK.ready hd hdu) hdi
      rw [(H w1 hg).1] at this; cases this
    by_cases hji : j = i
    · subst hji; exact ((hy.toG hB).up hg).wpOp hi (fun w' hg' => ⟨⟨fun _ => hg', gr_bel hg' (gr_size hg hB)⟩, H.up (hg.trans hg')⟩)
    · have := ready_mono hj hji
      rw [(H w1 hg).1] at this
      cases this
  | succ fuel ih =>
    intro listed a w hfree hc hiD hr hy hB H w1 hg
    refine ⟨fun h => (by rw [h] at hr; cases hr), fun j hj hjD => ?_, fun d hd hf hall g hge hblk => ?_⟩
    case refine_2 =>
      have hdi : d.1 ≠ i := fun he => hiD ⟨d, hd, he⟩
      rcases hDK with rfl | hDK
      · cases hd
      have hdu : listed.getD d.1 true = false := by have := List.find?_some hf; simpa using this
      have hiL : i ∈ Lt := (hall i hr).resolve_left hiD
      have hci := hc.set hr
      have hfi : firstU D (listed.setIfInBounds i true) = some d := by
        rw [← hf]
        unfold firstU
        exact find_congr' (fun x hx => by rw [getD_set_ne true (fun he => hiD ⟨x, hx, he.symm⟩)])
      have h3 := (H w1 hg).2.2 d hd hfi (fun j hj => by
        obtain ⟨j0, oj, hoj, hja⟩ := mem_ready.1 hj
        by_cases hjl : j ∈ Region.ready md ops listed
        · exact hall j hjl
        · exfalso
          have hji : j ≠ i := fun he => by
            subst he
            have h2 : (listed.setIfInBounds j true).getD j true = false := j0
            rcases Nat.lt_or_ge j listed.size with h' | h'
            · simp [h'] at h2
            · simp at h2
          have hju : listed.getD j true = false := by rw [getD_set_ne true (Ne.symm hji)] at j0; exact j0
          obtain ⟨e, he, hb, hnl⟩ : ∃ e ∈ oj.after, Region.binds md e = true ∧ ¬ listed.getD e.on false = true :=
            Classical.byContradiction fun hno => hjl (mem_ready.2 ⟨hju, oj, hoj, fun e he hb => Classical.byContradiction fun hx => hno ⟨e, he, hb, hx⟩⟩)
          have hei : e.on = i := Classical.byContradiction fun hne => hnl (by have := hja e he hb; rw [getD_set_ne false (Ne.symm hne)] at this; exact this)
          exact reach_not_ready hci (hDK.lt i hiL j oj hoj ⟨e, he, hb, hei⟩ d hd) (by rw [getD_set_ne true (Ne.symm hdi)]; exact hdu) hj) g hge hblk
      obtain ⟨od, hod, hdst, _, hnod⟩ := hDK.op d hd
      obtain ⟨_, oi', hoi', hia⟩ := mem_ready.1 hr
      obtain rfl : oi' = oi := Option.some.inj (hoi'.symm.trans hi)
      have hap := hDK.apart d hd i oi' od hi hod (Ne.symm hdi) (fun e he hb hon => by
        have h1 := hia e he hb
        rw [hon, getD_tf hdu] at h1; cases h1)
      obtain ⟨p1, p2, p3⟩ := Oper.apart_spec hap
      have hcd := hc.set (hDK.ready hd hdu)
      refine ih (listed.setIfInBounds d.1 true) _ w1 (fun k ok hk hki hun hno => hfree k ok hk hki (by
          by_cases hdk : d.1 = k
          · subst hdk; exact hdu
          · rw [getD_set_ne true hdk] at hun; exact hun) hno) hcd hiD (ready_mono hr (Ne.symm hdi))
        ((hy.up (gr_bel hg hB)).of_same (execOp_put oi' (fun cs b => hsel i oi' cs b hi) a (some d.2.1) _ (fun t ht => p1 t (by rw [hdst]; exact ht))) (wanted_put oi' a (some d.2.1) _ (fun t ht => p1 t (by rw [hdst]; exact ht)))) (gr_size hg hB) ?_
      rw [Array.setIfInBounds_comm _ _ hdi, Act.put_comm a (x := some d.2.1) (y := oi'.dst) _ _ (fun t ht => p2 t (by rw [hdst]; exact ht))]
      exact h3
    by_cases hji : j = i
    · subst hji; exact ((hy.toG hB).up hg).wpOp hi (fun w' hg' => ⟨⟨fun _ => hg', gr_bel hg' (gr_size hg hB)⟩, H.up (hg.trans hg')⟩)
    · have h1 := (H w1 hg).2.1 j (ready_mono hj hji) hjD
      obtain ⟨hjun, oj, hoj, hall⟩ := mem_ready.1 hj
      have hiun := (mem_ready.1 hr).1
      have hnot : ∀ e ∈ oj.after, Region.binds md e = true → e.on ≠ i := fun e he hb heq => by
        have h1 := hall e he hb
        rw [heq] at h1
        rcases Nat.lt_or_ge i listed.size with h' | h'
        · simp [h'] at hiun h1; rw [hiun] at h1; cases h1
        · simp [Array.getElem?_eq_none h'] at h1
      have h2 := wpOp_putG hoj (hfree j oj hoj hji hjun hnot) (fun cs b => hsel i oi cs b hi) (fun cs b => hsel j oj cs b hoj) hQ h1
      have hfree' : ∀ k ok, ops[k]? = some ok → k ≠ i → (listed.setIfInBounds j true).getD k true = false →
          (∀ e ∈ ok.after, Region.binds md e = true → e.on ≠ i) → oi.apart ops ok = true := fun k ok hk hki hun hno => by
        refine hfree k ok hk hki ?_ hno
        by_cases hjk : j = k
        · subst hjk; exact hjun
        · rw [getD_set_ne true hjk] at hun; exact hun
      refine wpOp_mono (fun a' w' h3 => ⟨h3.2.1, ?_⟩) h2
      have hb' : Below B w w' := (gr_bel hg hB).trans h3.2.1.2
      refine ih (listed.setIfInBounds j true) a' w' hfree' (hc.set hj) hiD (ready_mono hr (Ne.symm hji)) ((hy.up hb').of_same h3.1.1 h3.1.2) (by have := hb'.size; omega) ?_
      rw [Array.setIfInBounds_comm _ _ hji]
      exact h3.2.2
/-- One after the other; what is marked gives its value wherever what lies below B is as in w, the rest in every world that has grown out of w. -/
def SeqG (P : Program) (ops : Array Oper) (B : Nat) (w : World) (K : Act → Prop) : List (Nat × Bool × Option Tmp) → Act → Prop
  | [], a => K a
  | (i, true, N) :: r, a => ∃ o v, ops[i]? = some o ∧ o.dst = N ∧ YB P ops B o v a w ∧ SeqG P ops B w K r (a.put N v)
  | (i, false, N) :: r, a => ∃ o v, ops[i]? = some o ∧ o.dst = N ∧ YG P ops o v a w ∧ SeqG P ops B w K r (a.put N v)
def markL (l : Array Bool) : List (Nat × Bool × Option Tmp) → Array Bool
  | [] => l
  | (i, _) :: r => markL (l.setIfInBounds i true) r
def seqB (md : Region.Mode) (ops : Array Oper) (ds : List Nat) (D Lt : List Nat) : List (Nat × Bool × Option Tmp) → Array Bool → Bool
  | [], _ => true
  | (i, true, _) :: r, l => ((!D.contains i && closedB md ops l) && kanyB md ops l (l.setIfInBounds i true) i) && seqB md ops ds D Lt r (l.setIfInBounds i true)
  | (i, false, _) :: r, l => ((!D.contains i && !Lt.contains i) && ktakeB md ops ds l (l.setIfInBounds i true) i) && seqB md ops ds D Lt r (l.setIfInBounds i true)
theorem notD {i : Nat} (h : (!(D.map (·.1)).contains i) = true) : ¬ inD D i := fun ⟨d, hd, he⟩ => by
  have : (D.map (·.1)).contains i = true := List.contains_iff_mem.2 (List.mem_map.2 ⟨d, hd, he⟩)
  rw [this] at h; cases h
theorem putQ (hQ : ∀ (t : Tmp) v c a w, Q (.panic c) (Act.put a (some t) v) w → Q (.panic c) a w) (d : Option Tmp) (v : Value) (c : _) (a : Act) (w : World) (h : Q (.panic c) (Act.put a d v) w) : Q (.panic c) a w := by
  cases d with
  | none => exact h
  | some t => exact hQ t v c a w h
theorem kseq0 (hDK : D = [] ∨ DOK P md ops ds D Lt) (hQ : ∀ (t : Tmp) v c a w, Q (.panic c) (Act.put a (some t) v) w → Q (.panic c) a w) (m : Nat) (w : World) (hB : B ≤ w.heap.size) : ∀ (is : List (Nat × Bool × Option Tmp)) (l : Array Bool) (a : Act), seqB md ops ds (D.map (·.1)) Lt is l = true →
    SeqG P ops B w (fun a' => wpB P md ops Q ds B D Lt m (markL l is) a' w) is a → wpB P md ops Q ds B D Lt (m + is.length) l a w
  | [], _, _, _, h => h
  | (i, true, N) :: r, l, a, hc, h => by
    obtain ⟨o, v, ho, rfl, hy, hr⟩ := h
    simp only [seqB, Bool.and_eq_true, kanyB] at hc
    obtain ⟨⟨⟨h0, hcl⟩, ⟨⟨⟨h1, h2⟩, h3⟩, _⟩⟩, h5⟩ := hc
    exact wpB_any ho (Region.noSelect_spec h1) (putQ hQ _ _) hDK (m + r.length) l a w (Region.free_spec ho h2) (closedB_spec hcl) (notD h0) (by simpa using h3) hy hB (kseq0 hDK hQ m w hB r _ _ h5 hr)
  | (i, false, N) :: r, l, a, hc, h => by
    obtain ⟨o, v, ho, rfl, hy, hr⟩ := h
    simp only [seqB, Bool.and_eq_true, ktakeB] at hc
    obtain ⟨⟨⟨h0, hL⟩, ⟨⟨⟨⟨⟨h1, h2⟩, h3⟩, h4⟩, h5⟩, _⟩⟩, h7⟩ := hc
    exact wpB_first ho (Region.noSelect_spec h1) (putQ hQ _ _) ops.size (m + r.length) l a w (Region.free_spec ho h2) (closedB_spec h4)
      (fun d hm hun => by have := List.all_eq_true.1 h5 d hm; rw [hun] at this; simpa using this) ⟨notD h0, by simpa using hL⟩ (by simpa using h3) hy hB (kseq0 hDK hQ m w hB r _ _ h7 hr)
theorem bseq {fuel m : Nat} {l : Array Bool} {a : Act} {w : World} (hDK : D = [] ∨ DOK P md ops ds D Lt) (is : List (Nat × Bool × Option Tmp)) (l' : Array Bool) (hB : B ≤ w.heap.size) (hc : (seqB md ops ds (D.map (·.1)) Lt is l && (markL l is == l')) = true) (hf : m + is.length = fuel)
    (hQ : ∀ (t : Tmp) v c a w, Q (.panic c) (Act.put a (some t) v) w → Q (.panic c) a w) (h : SeqG P ops B w (fun a' => wpB P md ops Q ds B D Lt m l' a' w) is a) : wpB P md ops Q ds B D Lt fuel l a w := by
  subst hf
  simp only [Bool.and_eq_true, beq_iff_eq] at hc
  obtain ⟨h1, rfl⟩ := hc
  exact kseq0 hDK hQ m w hB is l a h1 h
theorem wpAny_of_B : ∀ (fuel : Nat) (l : Array Bool) (a : Act) (w : World), wpB P md ops Q ds B [] [] fuel l a w → wpAny P md ops Q fuel l a w
  | 0, _, _, w, h => h w (.refl w)
  | fuel + 1, _, _, w, h => ⟨(h w (.refl w)).1, fun i hi => wpOp_mono (fun a' w' h' => wpAny_of_B fuel _ a' w' h'.2) ((h w (.refl w)).2.1 i hi (fun ⟨_, hd, _⟩ => by cases hd))⟩
/-- B: the world's size as a rule; less where a block that is there is stored into. -/
theorem bstart (B : World → Nat) {id n : Nat} {a : Act} {w : World} (l : Array Bool) (hm : P.follows .mixedOrders = true) (hn : ops.size = n) (hl : Array.replicate n false = l) (hB : B w ≤ w.heap.size)
    (h : B w ≤ w.heap.size → wpB P .any ops Q ds (B w) [] [] n l a w) : (Code.region id ops true).wp P Q a w := by
  subst hn
  subst hl
  exact wp_region_any hm (wpAny_of_B _ _ _ _ ((h hB).up ((Gr.refl w).drew)))
def kreadyD (md : Region.Mode) (ops : Array Oper) (D Lt : List Nat) (l l' : Array Bool) (i : Nat) : Bool := ((Region.ready md ops l).filter (fun j => !D.contains j) == [i]) && !Lt.contains i && (l.setIfInBounds i true == l')
/-- One operation alone may come up now (beside allocations that wait). -/
theorem bone {i : Nat} {N : Option Tmp} {oi : Oper} {fuel : Nat} {l : Array Bool} {a : Act} {w : World} (l' : Array Bool) (hi : ops[i]? = some oi) (hN : oi.dst = N) (hc : kreadyD md ops (D.map (·.1)) Lt l l' i = true) (hB : B ≤ w.heap.size)
    (h : ∀ w1, Gr w w1 → ∀ K : Act → World → Prop, (∀ a' w', (if i ∈ ds then Below B w1 w' else Gr w1 w') → (B ≤ w'.heap.size → wpB P md ops Q ds B D Lt fuel l' a' w') → K a' w') → if Region.wanted oi (yielded ops a.tmps) = true then Oper.wp P oi a w1 K Q else K (a.put N undef) w1) :
    wpB P md ops Q ds B D Lt (fuel + 1) l a w := by
  subst hN
  simp only [kreadyD, Bool.and_eq_true, beq_iff_eq] at hc
  obtain ⟨⟨h1, hL⟩, h2⟩ := hc
  subst h2
  have hm : i ∈ (Region.ready md ops l).filter (fun j => !(D.map (·.1)).contains j) := by rw [h1]; exact List.mem_singleton_self i
  rw [List.mem_filter] at hm
  intro w1 hg
  refine ⟨fun h0 => (by rw [h0] at hm; cases hm.1), fun j hj hjD => ?_, fun d hd hh hall => ((hall i hm.1).elim (notD hm.2) (by simpa using hL)).elim⟩
  have hjm : j ∈ (Region.ready md ops l).filter (fun j => !(D.map (·.1)).contains j) := List.mem_filter.2 ⟨hj, by
    cases hc : (D.map (·.1)).contains j with
    | false => rfl
    | true =>
      obtain ⟨x, hx, he⟩ := List.mem_map.1 (List.contains_iff_mem.1 hc)
      exact absurd ⟨x, hx, he⟩ hjD⟩
  rw [h1] at hjm
  obtain rfl := List.mem_singleton.1 hjm
  refine wpOp_step hi (fun K' hK => h w1 hg K' (fun a' w' h2 h3 => ?_))
  have h4 : (j ∉ ds → Gr w1 w') ∧ Below B w1 w' := by
    split at h2
    · rename_i hd; exact ⟨fun hn => absurd hd hn, h2⟩
    · exact ⟨fun _ => h2, gr_bel h2 (gr_size hg hB)⟩
  exact hK a' w' ⟨h4, h3 (Nat.le_trans (gr_size hg hB) (Below.size h4.2))⟩
theorem bdone {l : Array Bool} {a : Act} {w : World} {n : Nat} (hr : ((Region.ready md ops l == []) && (D.map (·.1)).all (fun i => l.getD i true)) = true) (h : ∀ w1, Gr w w1 → Q .normal a w1) : wpB P md ops Q ds B D Lt n l a w := by
  simp only [Bool.and_eq_true, beq_iff_eq] at hr
  obtain ⟨hr, hf⟩ := hr
  cases n with
  | zero => exact fun w1 hg => ⟨hr, h w1 hg⟩
  | succ n => exact fun w1 hg => ⟨fun _ => h w1 hg, by rw [hr]; simp, fun d hd hf' => by
      have h1 := List.all_eq_true.1 hf d.1 (List.mem_map.2 ⟨d, hd, rfl⟩)
      have h2 := List.find?_some hf'
      rw [h1] at h2; cases h2⟩
/-- A call whose contract tells what holds of its answer. -/
theorem wp_call {f : FuncId} {fn : Func} {asL : List Operand} {ts : Array TypeId} {al : List Value} {o : Oper} {a : Act} {w : World} {K : Act → World → Prop} (hf : P.funcs[f]? = some fn)
    (hop : o.op = .call { callee := .value (.func f), args := asL.toArray, argTypes := ts }) (hname : (fn.name == "runtime.NumGoroutine") = false) (hb : fn.body.isSome = true) (hargs : asL.map a.eval = al)
    (h : Calls P f al.toArray w fun e w' => ∃ v, e = .returned v ∧ K (a.put o.dst v) w') : Oper.wp P o a w K Q := by
  have he := callFunc_enters hf hname hb al.toArray w
  have hr : (execOp a.eval o).run P w = .ok (.enter f al.toArray) w := by
    unfold execOp
    simp [hop, resolve, Deferred.ofValue, invoke, Act.eval]
    rw [show (List.map (Act.eval a) asL) = al from hargs, he]
  unfold Oper.wp
  rw [hr]
  simp only [Oper.upon]
  exact Calls.mono h (fun e w' ⟨v, he, hk⟩ => by subst he; exact hk)
/-- An allocation that waited: some new block. -/
theorem balloc {fuel : Nat} {l : Array Bool} {a : Act} {w : World} (hD : DOK P md ops ds D Lt) (d : DIt) (hd : d ∈ D) (l' : Array Bool)
    (hc : ((D.map (·.1)).find? (fun i => !l.getD i true) == some d.1 && (Region.ready md ops l).all (fun j => (D.map (·.1)).contains j) && (l.setIfInBounds d.1 true == l')) = true)
    (hB : B ≤ w.heap.size) (h : ∀ w1 g, Gr w w1 → B ≤ g → w1.heap[g]? = some (.cells d.2.2.2 d.2.2.1 (0, 0)) → B ≤ w1.heap.size → wpB P md ops Q ds B D Lt fuel l' (a.put (some d.2.1) (ptrV g)) w1) : wpB P md ops Q ds B D Lt (fuel + 1) l a w := by
  simp only [Bool.and_eq_true, beq_iff_eq] at hc
  obtain ⟨⟨h1, h2⟩, rfl⟩ := hc
  intro w1 hg
  have hun : l.getD d.1 true = false := by have := List.find?_some h1; simpa using this
  have hrd := hD.ready hd hun
  refine ⟨fun h0 => (by rw [h0] at hrd; cases hrd), fun j hj hn => ?_, fun d' hd' hh _ g hge hb => ?_⟩
  · have := List.all_eq_true.1 h2 j hj
    obtain ⟨x, hx, he⟩ := List.mem_map.1 (List.contains_iff_mem.1 this)
    exact absurd ⟨x, hx, he⟩ hn
  · have h5 : (D.map (·.1)).find? (fun i => !l.getD i true) = some d'.1 := by
      rw [List.find?_map]
      show Option.map (·.1) (D.find? (fun x => !l.getD x.1 true)) = _
      unfold firstU at hh
      rw [hh]; rfl
    rw [h1] at h5
    obtain rfl := hD.uniq d hd d' hd' (Option.some.inj h5)
    exact h w1 g hg hge hb (gr_size hg hB)
theorem nodup_le : ∀ (xs ys : List Nat), xs.Nodup → (∀ x ∈ xs, x ∈ ys) → xs.length ≤ ys.length
  | [], _, _, _ => by simp
  | x :: xs, ys, hn, h => by
    simp only [List.nodup_cons] at hn
    have hx := h x List.mem_cons_self
    have := nodup_le xs (ys.erase x) hn.2 (fun y hy => (List.mem_erase_of_ne (fun he => by subst he; exact hn.1 hy)).2 (h y (List.mem_cons_of_mem _ hy)))
    rw [List.length_erase_of_mem hx] at this
    have := List.length_pos_of_mem hx
    simp; omega
def dokB (md : Region.Mode) (ops : Array Oper) (ds : List Nat) (D : List (Nat × Tmp)) (Lt : List Nat) : Bool :=
  Region.noSelect ops && D.all (fun d => (match ops[d.1]? with | some o => o.dst == some d.2 && o.guard.isNone && o.after.all (fun e => !Region.binds md e) | none => false) && Region.free md ops (Array.replicate ops.size false) d.1 && D.all (fun d' => d.1 == d'.1 || d.2 != d'.2)) &&
  decide ((D.map (·.1)).Nodup) &&
  (List.range ops.size).all (fun p => match ops[p]? with
    | some o => (D.map (·.1)).contains p || !o.after.any (fun e => Region.binds md e && (D.map (·.1)).contains e.on) ||
      (D.all (fun d => reachB md ops d.1 ops.size p) && (List.range ops.size).all (fun q => (D.map (·.1)).contains q || Lt.contains q || q == p || reachB md ops q ops.size p || reachB md ops p ops.size q))
    | none => true) &&
  ds.all (fun p => D.all (fun d => reachB md ops d.1 ops.size p)) &&
  Lt.all (fun i => (List.range ops.size).all (fun r => match ops[r]? with
    | some o => !o.after.any (fun e => Region.binds md e && e.on == i) || D.all (fun d => reachB md ops d.1 ops.size r)
    | none => true))
theorem DOK.of (hc : dokB md ops ds (D.map (fun d => (d.1, d.2.1))) Lt = true) (hr : ∀ d ∈ D, ∀ o, ops[d.1]? = some o → ∀ (ev : Operand → Value) w, (execOp ev o).run P w = .ok (.value (ptrV w.heap.size)) (w.alloc (.cells d.2.2.2 d.2.2.1))) : DOK P md ops ds D Lt := by
  simp only [dokB, Bool.and_eq_true, List.map_map] at hc
  obtain ⟨⟨⟨⟨⟨h1, h2⟩, h3⟩, h4⟩, h5⟩, h6⟩ := hc
  have hidx : (D.map (fun d => (d.1, d.2.1))).map (·.1) = D.map (·.1) := by rw [List.map_map]; rfl
  have hidx' : List.map ((fun (d : Nat × Tmp) => d.1) ∘ fun (d : DIt) => (d.1, d.2.1)) D = D.map (·.1) := rfl
  rw [hidx'] at h3 h4
  have h3 := of_decide_eq_true h3
  have e2 : ∀ d ∈ D, ∃ o, ops[d.1]? = some o ∧ o.dst = some d.2.1 ∧ o.guard = none ∧ (∀ e ∈ o.after, Region.binds md e = false) := fun d hd => by
    have := List.all_eq_true.1 h2 (d.1, d.2.1) (List.mem_map.2 ⟨d, hd, rfl⟩)
    simp only [Bool.and_eq_true] at this
    have h := this.1.1
    cases ho : ops[d.1]? with
    | none => simp only [ho] at h; cases h
    | some o =>
      simp only [ho, Bool.and_eq_true, beq_iff_eq, Option.isNone_iff_eq_none] at h
      refine ⟨o, rfl, h.1.1, h.1.2, fun e he => ?_⟩
      have := Array.all_eq_true_iff_forall_mem.1 h.2 e he
      simpa using this
  refine ⟨fun j o cs b ho => Region.noSelect_spec h1 j o cs b ho, e2, hr, fun d hd d' hd' hne => ?_, fun E hn hE => ?_, fun d hd d' hd' he => ?_, fun d hd j oj oi hoj hoi hne hno => ?_, fun p o ho hp hex => ?_, fun p hp d hd => ?_, fun i hi r o ho hex d hd => ?_⟩
  · have := List.all_eq_true.1 h2 (d.1, d.2.1) (List.mem_map.2 ⟨d, hd, rfl⟩)
    simp only [Bool.and_eq_true] at this
    have := List.all_eq_true.1 this.2 (d'.1, d'.2.1) (List.mem_map.2 ⟨d', hd', rfl⟩)
    simp [hne] at this
    exact this
  · have := nodup_le (E.map (·.1.1)) (D.map (·.1)) hn (fun x hx => by
      obtain ⟨y, hy, rfl⟩ := List.mem_map.1 hx
      exact List.mem_map.2 ⟨y.1, hE y hy, rfl⟩)
    simpa using this
  · obtain ⟨i, hi⟩ := List.getElem?_of_mem hd
    obtain ⟨j, hj⟩ := List.getElem?_of_mem hd'
    have := nodup_get h3 (i := i) (j := j) (x := d.1) (by rw [List.getElem?_map, hi]; rfl) (by rw [List.getElem?_map, hj, he]; rfl)
    subst this
    rw [hi] at hj
    exact Option.some.inj hj
  · have := List.all_eq_true.1 h2 (d.1, d.2.1) (List.mem_map.2 ⟨d, hd, rfl⟩)
    simp only [Bool.and_eq_true] at this
    have hjl : j < ops.size := (Array.getElem?_eq_some_iff.1 hoj).1
    exact Region.free_spec hoi this.1.2 j oj hoj hne (by simp [hjl]) hno
  · have hpl : p < ops.size := (Array.getElem?_eq_some_iff.1 ho).1
    have h := List.all_eq_true.1 h4 p (List.mem_range.2 hpl)
    simp only [ho, Bool.or_eq_true, Bool.and_eq_true] at h
    have hnD : ¬ (D.map (·.1)).contains p = true := fun hh => by
      obtain ⟨x, hx, he⟩ := List.mem_map.1 (List.contains_iff_mem.1 hh)
      exact hp ⟨x, hx, he⟩
    obtain ⟨e, he, hb, d0, hd0, hde⟩ := hex
    have hany : o.after.any (fun e => Region.binds md e && (D.map (·.1)).contains e.on) = true :=
      Array.any_eq_true'.2 ⟨e, he, by rw [hb, Bool.true_and]; exact List.contains_iff_mem.2 (List.mem_map.2 ⟨d0, hd0, hde⟩)⟩
    rw [hany] at h
    rcases h with (h | h) | ⟨ha, hq⟩
    · exact absurd h hnD
    · cases h
    · refine ⟨fun d hd => List.all_eq_true.1 ha (d.1, d.2.1) (List.mem_map.2 ⟨d, hd, rfl⟩), fun q oq hoq hqD hqL hne => ?_⟩
      have := List.all_eq_true.1 hq q (List.mem_range.2 (Array.getElem?_eq_some_iff.1 hoq).1)
      simp only [Bool.or_eq_true, beq_iff_eq] at this
      rcases this with (((h | h0) | h) | h) | h
      · obtain ⟨x, hx, he⟩ := List.mem_map.1 (List.contains_iff_mem.1 h)
        exact absurd ⟨x, hx, he⟩ hqD
      · exact absurd (List.contains_iff_mem.1 h0) hqL
      · exact absurd h hne
      · exact .inl h
      · exact .inr h
  · exact List.all_eq_true.1 (List.all_eq_true.1 h5 p hp) (d.1, d.2.1) (List.mem_map.2 ⟨d, hd, rfl⟩)
  · have h := List.all_eq_true.1 (List.all_eq_true.1 h6 i hi) r (List.mem_range.2 (Array.getElem?_eq_some_iff.1 ho).1)
    obtain ⟨e, he, hb, hei⟩ := hex
    simp only [ho, Bool.or_eq_true] at h
    have hany : o.after.any (fun e => Region.binds md e && e.on == i) = true := Array.any_eq_true'.2 ⟨e, he, by rw [hb, Bool.true_and, hei]; simp⟩
    rw [hany] at h
    exact List.all_eq_true.1 (h.resolve_left (by simp)) (d.1, d.2.1) (List.mem_map.2 ⟨d, hd, rfl⟩)
/-- A region with allocations that wait. -/
theorem dstart (B : World → Nat) (D : List DIt) (Lt : List Nat) {id n : Nat} {a : Act} {w : World} (l : Array Bool) (hc : dokB .any ops ds (D.map (fun d => (d.1, d.2.1))) Lt = true)
    (hr : ∀ d ∈ D, ∀ o, ops[d.1]? = some o → ∀ (ev : Operand → Value) w, (execOp ev o).run P w = .ok (.value (ptrV w.heap.size)) (w.alloc (.cells d.2.2.2 d.2.2.1)))
    (hm : P.follows .mixedOrders = true) (hn : ops.size = n) (hl : Array.replicate n false = l) (hB : B w ≤ w.heap.size)
    (hQ : ∀ (t : Tmp) v c a w, Q (.panic c) a w → Q (.panic c) (Act.put a (some t) v) w)
    (h : DOK P .any ops ds D Lt → B w ≤ w.heap.size → wpB P .any ops Q ds (B w) D Lt n l a w) : (Code.region id ops true).wp P Q a w := by
  subst hn
  subst hl
  have hD := DOK.of (P := P) (D := D) (Lt := Lt) hc hr
  exact wp_region_any hm (wpAny_of_D hD hQ _ _ _ (gr_size ((Gr.refl w).drew) hB) ((h hD hB).up ((Gr.refl w).drew)))
theorem SeqG_mono {w : World} {K K' : Act → Prop} (hk : ∀ a, K a → K' a) : ∀ (is : List (Nat × Bool × Option Tmp)) (a : Act), SeqG P ops B w K is a → SeqG P ops B w K' is a
  | [], _, h => hk _ h
  | (_, true, _) :: r, _, ⟨o, v, ho, hN, hy, h⟩ => ⟨o, v, ho, hN, hy, SeqG_mono hk r _ h⟩
  | (_, false, _) :: r, _, ⟨o, v, ho, hN, hy, h⟩ => ⟨o, v, ho, hN, hy, SeqG_mono hk r _ h⟩
/-- A region all of whose operations are of this kind. -/
theorem kall {id n : Nat} {a : Act} {w : World} (is : List (Nat × Bool × Option Tmp)) (hm : P.follows .mixedOrders = true) (hn : ops.size = n) (hc : (seqB .any ops [] [] [] is (Array.replicate n false) && (Region.ready .any ops (markL (Array.replicate n false) is) == [])) = true) (hf : is.length = n)
    (hQ : ∀ (t : Tmp) v c a w, Q (.panic c) (Act.put a (some t) v) w → Q (.panic c) a w) (h : SeqG P ops w.heap.size w (fun a' => ∀ w1, Gr w w1 → Q .normal a' w1) is a) : (Code.region id ops true).wp P Q a w := by
  simp only [Bool.and_eq_true] at hc
  refine bstart (fun w => w.heap.size) (ds := []) _ hm hn rfl (Nat.le_refl _) (fun _ => ?_)
  have := kseq0 (md := .any) (ds := []) (D := []) (Lt := []) (.inl rfl) hQ 0 w (Nat.le_refl _) is _ a hc.1 (P := P) (ops := ops) ?_
  · rw [Nat.zero_add, hf] at this; exact this
  · exact SeqG_mono (fun a' h' => bdone (by rw [hc.2]; rfl) h') is a h
section
variable {i : Nat} {r : List (Nat × Bool × Option Tmp)} {a a' : Act} {w : World} {K : Act → Prop} {o : Oper} {v : Value} {N : Option Tmp}
theorem sP (ho : ops[i]? = some o) (hN : o.dst = N) (hw : Region.wanted o (yielded ops a.tmps) = true) (hy : ∀ w', (execOp a.eval o).run P w' = .ok (.value v) w') (ha : a.put N v = a') (h : SeqG P ops B w K r a') : SeqG P ops B w K ((i, true, N) :: r) a :=
  ⟨o, v, ho, hN, .inl ⟨hw, fun w1 _ => RunG_value (hy w1)⟩, by rw [ha]; exact h⟩
/-- A load of what lies below B. -/
theorem sB (ho : ops[i]? = some o) (hN : o.dst = N) (hw : Region.wanted o (yielded ops a.tmps) = true) (hy : ∀ w1, Below B w w1 → (execOp a.eval o).run P w1 = .ok (.value v) w1) (ha : a.put N v = a') (h : SeqG P ops B w K r a') : SeqG P ops B w K ((i, true, N) :: r) a :=
  ⟨o, v, ho, hN, .inl ⟨hw, fun w1 hg => RunG_value (hy w1 hg)⟩, by rw [ha]; exact h⟩
/-- An operation whose guard is false. -/
theorem sO (ho : ops[i]? = some o) (hN : o.dst = N) (hw : Region.wanted o (yielded ops a.tmps) = false) (ha : a.put N undef = a') (h : SeqG P ops B w K r a') : SeqG P ops B w K ((i, true, N) :: r) a :=
  ⟨o, undef, ho, hN, .inr ⟨hw, rfl⟩, by rw [ha]; exact h⟩
theorem sL (ho : ops[i]? = some o) (hN : o.dst = N) (hw : Region.wanted o (yielded ops a.tmps) = true) (hy : ∀ w1, Gr w w1 → (execOp a.eval o).run P w1 = .ok (.value v) w1) (ha : a.put N v = a') (h : SeqG P ops B w K r a') : SeqG P ops B w K ((i, false, N) :: r) a :=
  ⟨o, v, ho, hN, .inl ⟨hw, fun w1 hg => RunG_value (hy w1 hg)⟩, by rw [ha]; exact h⟩
theorem sC {f : FuncId} {fn : Func} {asL : List Operand} {ts : Array TypeId} {al : List Value} (hf : P.funcs[f]? = some fn) (ho : ops[i]? = some o) (hN : o.dst = N) (hw : Region.wanted o (yielded ops a.tmps) = true)
    (hop : o.op = .call { callee := .value (.func f), args := asL.toArray, argTypes := ts }) (hname : (fn.name == "runtime.NumGoroutine") = false) (hb : fn.body.isSome = true) (hargs : asL.map a.eval = al)
    (hy : ∀ w1, Gr w w1 → Calls P f al.toArray w1 fun e w'' => e = .returned v ∧ Below w1.heap.size w1 w'') (ha : a.put N v = a') (h : SeqG P ops B w K r a') : SeqG P ops B w K ((i, false, N) :: r) a :=
  ⟨o, v, ho, hN, .inl ⟨hw, fun w1 hg => RunG_call hf hname hb al hop hargs (hy w1 hg)⟩, by rw [ha]; exact h⟩
/-- The same behind any store above B. -/
theorem sD {f : FuncId} {fn : Func} {asL : List Operand} {ts : Array TypeId} {al : List Value} (hf : P.funcs[f]? = some fn) (ho : ops[i]? = some o) (hN : o.dst = N) (hw : Region.wanted o (yielded ops a.tmps) = true)
    (hop : o.op = .call { callee := .value (.func f), args := asL.toArray, argTypes := ts }) (hname : (fn.name == "runtime.NumGoroutine") = false) (hb : fn.body.isSome = true) (hargs : asL.map a.eval = al)
    (hy : ∀ w1, Below B w w1 → Calls P f al.toArray w1 fun e w'' => e = .returned v ∧ Below w1.heap.size w1 w'') (ha : a.put N v = a') (h : SeqG P ops B w K r a') : SeqG P ops B w K ((i, true, N) :: r) a :=
  ⟨o, v, ho, hN, .inl ⟨hw, fun w1 hg => RunG_call hf hname hb al hop hargs (hy w1 hg)⟩, by rw [ha]; exact h⟩
end
end
theorem bel_set {B g j : Nat} {w : World} {v : Value} (h : B ≤ g) : Below B w (w.setCell ⟨g, j, none⟩ v) :=
  ⟨rfl, rfl, rfl, by simp [World.setCell], fun i hi => Below.heap_setCell w _ _ _ (by show i ≠ g; omega)⟩
theorem bel_setRow {B g : Nat} {w : World} (h : B ≤ g) (cs : Array Value) : Below B w (w.setRow g cs) :=
  ⟨rfl, rfl, rfl, by simp, fun i hi => setRow_other w g i cs (by omega)⟩
theorem in_ds {p q : Prop} [Decidable p] (h : p) {a : Prop} (ha : a) : if p then a else q := by rw [if_pos h]; exact ha
theorem not_ds {p q : Prop} [Decidable p] (h : ¬ p) {a : Prop} (ha : q) : if p then a else q := by rw [if_neg h]; exact ha
/-- A whole array or struct out of a block. -/
theorem run_load_row {P : Program} {o : Oper} {a : Act} {w : World} (ty : TypeId) (x : Operand) (ho : o.op = .load ty x) (g : Nat) (hx : a.eval x = .pointer (some ⟨g, 0, none⟩)) (t : TypeId) (cs : Array Value) (fr : Nat × Nat) (d : TypeDesc)
    (hg : w.heap[g]? = some (.cells cs t fr)) (hu : P.underlying ty = some d) (hd : (match d with | .struct _ | .array _ _ => true | _ => false) = true) (hi : (P.info? ty).map (·.size) = some cs.size) :
    (execOp a.eval o).run P w = .ok (.value (.agg cs)) w := by
  unfold execOp
  simp only [ho, hx, Instr.loadAt, Instr.sureAddr, Sem.run_bind, Sem.run_pure, Result.andThen_ok, run_loadVar_row w g t ty cs fr d hg hu hd hi]
theorem Own.setRow {w0 w : World} {L L' : List (Nat × Obj)} (h : Own w0 L w) (k : Nat) {g : Nat} {cs : Array Value} {t : TypeId} {fr : Nat × Nat} (hk : L[k]? = some (g, .cells cs t fr)) (cs' : Array Value)
    (hL : L.set k (g, .cells cs' t fr) = L') : Own w0 L' (w.setRow g cs') :=
  hL ▸ h.modify k hk (size_setRow w g cs') rfl rfl rfl (setRow_heap w g cs cs' t fr (h.blk k hk)) (fun i hi => setRow_other w g i cs' hi)
theorem Own.allLt {w0 w : World} {L : List (Nat × Obj)} (h : Own w0 L w) : ∀ p ∈ L, p.1 < w.heap.size := fun p hp => (Array.getElem?_eq_some_iff.1 (h.mem p hp).1).1
/-- A block that waited is taken up. -/
theorem Own.takeB {w0 w : World} {L : List (Nat × Obj)} (h : Own w0 L w) {B g : Nat} {o : Obj} (hl : ∀ p ∈ L, p.1 < B) (hB : B ≤ g) (h0 : w0.heap.size ≤ B) (hb : w.heap[g]? = some o) : Own w0 ((g, o) :: L) w :=
  h.take hb (by omega) (fun hm => by obtain ⟨p, hp, he⟩ := List.mem_map.1 hm; have := hl p hp; omega)
/-- A block of the call's own in a world in which what lies below B is the same. -/
theorem Own.belB {w0 w w1 : World} {L : List (Nat × Obj)} {B : Nat} (h : Own w0 L w) (hg : Below B w w1) (h0 : w0.heap.size ≤ B) (hl : ∀ p ∈ L, p.1 < B) : Own w0 L w1 :=
  ⟨h.below.trans (Below.mono hg h0), fun p hp => ⟨(hg.block p.1 (hl p hp)).trans (h.mem p hp).1, (h.mem p hp).2⟩, h.nd⟩
end Go.Proofs.Ytfghjahmnjghgaa

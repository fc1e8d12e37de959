import Derived.RangeFuncNested
import Derived.RangeFuncLeaves
import Derived.RangeFuncCalls
import Derived.Test.YtpafocjmheemjaaDoorDf
import Derived.Deep.LoopGhost
import Derived.Shelf.Abstract
import Derived.Shelf.RegionOpen
import Derived.WalkKit
import Derived.OwnWalkIn
import Derived.TacticsInMore
import Derived.LoopNIn
import Derived.LoopIn
import Derived.Test.YtpafocjmheemjaaDoorDa
/- A RANGE OVER AN ITERATOR WITHOUT AN END, which keeps a box of its own between rounds: the loop's body ends it. -/
namespace Go.Proofs.YtpafocjmheemjaaDoor
open Go.RowKit
/-- What lay lies as it lay, but for the blocks of x. -/
structure Save (x : Nat → Prop) (W W' : World) : Prop where
  os : W'.os = W.os
  tape : W'.tape = W.tape
  output : W'.output = W.output
  size : W.heap.size ≤ W'.heap.size
  block : ∀ k, k < W.heap.size → ¬ x k → W'.heap[k]? = W.heap[k]?
theorem Save.refl (x : Nat → Prop) (W : World) : Save x W W := ⟨rfl, rfl, rfl, Nat.le_refl _, fun _ _ _ => rfl⟩
theorem Save.trans {x : Nat → Prop} {A B C : World} (h : Save x A B) (k : Save x B C) : Save x A C :=
  ⟨k.os.trans h.os, k.tape.trans h.tape, k.output.trans h.output, Nat.le_trans h.size k.size, fun i hi hx => (k.block i (Nat.lt_of_lt_of_le hi h.size) hx).trans (h.block i hi hx)⟩
theorem Save.of_below {x : Nat → Prop} {A B : World} (h : Below A.heap.size A B) : Save x A B := ⟨h.os, h.tape, h.output, h.size, fun k hk _ => h.block k hk⟩
theorem Save.putObj {x : Nat → Prop} (W : World) {l : Nat} (o : Obj) (hx : x l) : Save x W (W.putObj l o) := by
  refine ⟨rfl, rfl, rfl, by simp [World.putObj], fun k hk hn => ?_⟩
  exact World.putObj_heap_other (fun e => hn (e ▸ hx))
theorem Save.setCell {x : Nat → Prop} (W : World) {l j : Nat} (v : Value) (hx : x l) : Save x W (W.setCell ⟨l, j, none⟩ v) :=
  ⟨rfl, rfl, rfl, by simp [World.setCell], fun k _ hn => Below.heap_setCell W _ v k (fun e => hn (e ▸ hx))⟩
/-- How a round of such a loop ends. -/
def endlessPost (ks : Nat → Prop) (I Ix : Nat → World → Prop) (id : Nat) (i : Nat) (W : World) : Exit → Act → World → Prop
  | .normal, _, W' => (∀ k, ks k → W'.heap[k]? = W.heap[k]?) ∧ I (i + 1) W'
  | .exit j, _, W' => j = id ∧ (∀ k, ks k → W'.heap[k]? = W.heap[k]?) ∧ Ix (i + 1) W'
  | _, _, _ => False
/-- The iterator's contract: for whatever the loop does between two rounds. -/
def EndlessAt (F : Fence) (n : Nat) (P : Program) (gf : Nat) (lb : Array Value) (encs : Nat → Array Value) (b N : Nat) (Kp : World → Prop) (W0 : World) : Prop :=
  ∀ (l : Nat) (Y Yx : Nat → World → Prop) (W : World), (∀ i A B, Y i A → Save (· = b) A B → Y i B) → (∀ i A, Y i A → i < N ∧ Kp A) →
    (∀ i A, Y i A → YieldAt F (n - 1) P l (encs i) A fun e B =>
      (e = .returned (.bool true) ∧ Y (i + 1) B ∧ B.heap[b]? = A.heap[b]?) ∨ (e = .returned (.bool false) ∧ Yx (i + 1) B)) →
    Y 0 W → W0.heap.size ≤ W.heap.size → W.heap[b]? = W0.heap[b]? →
    CallsIn F n P gf (#[.func (.yield l) #[] #[]] ++ lb) W fun e B => (∃ v, e = .returned v) ∧ ∃ i, Yx i B
theorem range_endless {F : Fence} {n : Nat} {P : Program} {g : Operand} {ps : Array Tmp} {assign body : Code} {Q : Exit → Act → World → Prop} {a : Act} {w : World}
    (hro : F.round = none) (h1 : 1 ≤ n) {gf : Nat} {lb : Array Value} (hg : a.eval g = .func (.func gf) #[] lb) (hFg : F.fn gf) (eg : ∀ args w, (callFunc gf args).run P w = .ok (.enter gf args) w)
    {encs : Nat → Array Value} {b N : Nat} {Kp : World → Prop} (hb : b < w.heap.size) (hseq : EndlessAt F (n - 1) P gf lb encs b N Kp w) (hps : ∀ i, (encs i).size = ps.size)
    (I Ix : Nat → World → Prop) (hI : ∀ i A B, I i A → Save (fun k => k = b ∨ k = w.heap.size ∨ k = w.heap.size + 1) A B → I i B) (hIx : ∀ i A B, Ix i A → Save (fun k => k = w.heap.size ∨ k = w.heap.size + 1) A B → Ix i B)
    (hN : ∀ i A, I i A → i < N ∧ Kp A) (h0 : I 0 w) (a₁ : Nat → Act) (id : Nat)
    (hassign : ∀ (l i : Nat) (W : World) (K : Act → World → Prop), K (a₁ i) W →
      assign.wpIn (F.inRound l) (n - 1 - 1) P (Exit.then K (fun _ _ _ => False)) { tmps := (ps.zip (encs i)).foldl (fun t (p, v) => t.setIfInBounds p v) a.tmps, defers := [] } W)
    (hbody : ∀ (i : Nat) (W : World), I i W → w.heap.size + 1 < W.heap.size → body.wpIn (F.inRound (w.heap.size + 1)) (n - 1 - 1) P (endlessPost (fun k => k = b ∨ k = w.heap.size ∨ k = w.heap.size + 1) I Ix id i W) (a₁ i) W)
    (hstop : ∀ (i : Nat) (W : World), Ix i W → W.heap[w.heap.size]? = some (.deferred (some [])) → (Code.exit id).wpIn F n P Q { a with defers := { target := .collected w.heap.size, args := #[] } :: a.defers } W) :
    (Code.rangeFunc g ps assign body).wpIn F n P Q a w := by
  refine wpIn_rangeFunc fun fn hfn => ?_
  rw [hro]
  have hrec : ∃ r : LoopState → Option Code → Loop, r = fun st pe => { state := st, pending := pe, fn, tmps := a.tmps, params := ps, assign, body, defers := w.heap.size } := ⟨_, rfl⟩
  obtain ⟨r, hr⟩ := hrec
  generalize hD : w.heap.size = D at *
  have hWE : ∃ W1, (w.alloc (.deferred (some []))).alloc (.loop (r .ready none)) = W1 := ⟨_, rfl⟩
  obtain ⟨W1, hW1⟩ := hWE
  have hS : Save (fun k => k = b ∨ k = D ∨ k = D + 1) w W1 := by
    rw [← hW1]
    have e := ((Below.refl w.heap.size w).alloc (Nat.le_refl _) (.deferred (some []))).alloc (by simp) (.loop (r .ready none))
    exact Save.of_below e
  have hW1s : w.heap.size ≤ W1.heap.size := hS.size
  have hl1 : W1.heap[D + 1]? = some (.loop (r .ready none)) := by
    rw [← hW1, ← hD]
    have := World.alloc_heap_new (w.alloc (.deferred (some []))) (.loop (r .ready none))
    rwa [World.size_alloc] at this
  have hd1 : W1.heap[D]? = some (.deferred (some [])) := by
    rw [← hW1, ← hD]
    exact (Below.heap_alloc _ _ _ (by simp)).trans (World.alloc_heap_new w _)
  have hb1 : W1.heap[b]? = w.heap[b]? := by
    rw [← hW1]
    exact (Below.heap_alloc _ _ _ (by simp; omega)).trans (Below.heap_alloc _ _ _ (by omega))
  refine ⟨D + 1, [{ target := .collected D, args := #[] }], W1, { target := .fn (.func gf) lb, args := #[.func (.yield (D + 1)) #[] #[]] }, W1, gf, #[.func (.yield (D + 1)) #[] #[]] ++ lb, W1, ?_, ?_, ?_, ?_, fun _ => h1, ?_⟩
  · rw [← hW1, hr, ← hD]
    exact run_enterLoop_outer _ _ _ _ _
  · simp only [resolve, hg]
    simp [go_sem]
  · intro f' hf'
    simp [Target.leads] at hf'
    subst hf'
    exact hFg
  · simp [invoke, go_sem, eg]
  refine (hseq (D + 1) (fun i W => I i W ∧ W.heap[D + 1]? = some (.loop (r .ready none)) ∧ W.heap[D]? = some (.deferred (some [])))
    (fun i W => Ix i W ∧ W.heap[D + 1]? = some (.loop (r .done (some (.exit id)))) ∧ W.heap[D]? = some (.deferred (some []))) W1 ?_ (fun i A h => hN i A h.1) ?_ ⟨hI _ _ _ h0 hS, hl1, hd1⟩ hW1s hb1).mono ?_
  · rintro i A B ⟨h, hl, hd⟩ hs
    have hlt := (Array.getElem?_eq_some_iff.1 hl).1
    exact ⟨hI i A B h ⟨hs.os, hs.tape, hs.output, hs.size, fun k hk hn => hs.block k hk (fun e => hn (.inl e))⟩, (hs.block _ hlt (by omega)).trans hl, (hs.block _ (by omega) (by omega)).trans hd⟩
  · rintro i A ⟨hi, hl, hd⟩
    have hlt := (Array.getElem?_eq_some_iff.1 hl).1
    have hy := run_yield (P := P) (args := encs i) hl (by rw [hr]; exact hps i)
    rw [hr] at hy
    refine ⟨fn, _, assign, body, hy, roundIn_of_wpIn hfn (hassign _ i A _ ⟨_, run_beginRound hl (by rw [hr]), ?_⟩)⟩
    have hA2 : ∃ A2, A.putObj (D + 1) (.loop { r .ready none with state := .busy }) = A2 := ⟨_, rfl⟩
    obtain ⟨A2, hA2⟩ := hA2
    rw [hA2]
    have hl2 : A2.heap[D + 1]? = some (.loop { r .ready none with state := .busy }) := by rw [← hA2]; exact World.putObj_heap_same hlt
    have hd2 : A2.heap[D]? = some (.deferred (some [])) := by rw [← hA2]; exact (World.putObj_heap_other (by omega)).trans hd
    have hb2 : A2.heap[b]? = A.heap[b]? := by rw [← hA2]; exact World.putObj_heap_other (by omega)
    have hi2 : I i A2 := by rw [← hA2]; exact hI _ _ _ hi (Save.putObj A _ (.inr (.inr rfl)))
    refine wpIn_mono (hbody i A2 hi2 (Array.getElem?_eq_some_iff.1 hl2).1) ?_
    rintro e a3 W3 hp
    cases e with
    | normal =>
      obtain ⟨hk, hi3⟩ := hp
      have hl3 := (hk _ (.inr (.inr rfl))).trans hl2
      have hlt3 := (Array.getElem?_eq_some_iff.1 hl3).1
      refine ⟨_, _, run_endRound none hl3, .inl ⟨rfl, ⟨hI _ _ _ hi3 (Save.putObj W3 _ (.inr (.inr rfl))), ?_, ?_⟩, ?_⟩⟩
      · rw [World.putObj_heap_same hlt3, hr]; rfl
      · exact (World.putObj_heap_other (by omega)).trans ((hk _ (.inr (.inl rfl))).trans hd2)
      · exact (World.putObj_heap_other (by omega)).trans ((hk _ (.inl rfl)).trans hb2)
    | exit j =>
      obtain ⟨rfl, hk, hi3⟩ := hp
      have hl3 := (hk _ (.inr (.inr rfl))).trans hl2
      have hlt3 := (Array.getElem?_eq_some_iff.1 hl3).1
      refine ⟨_, _, run_endRound (some (.exit j)) hl3, .inr ⟨rfl, hIx _ _ _ hi3 (Save.putObj W3 _ (.inr rfl)), ?_, ?_⟩⟩
      · rw [World.putObj_heap_same hlt3, hr]; rfl
      · exact (World.putObj_heap_other (by omega)).trans ((hk _ (.inr (.inl rfl))).trans hd2)
    | ret => exact hp.elim
    | goto t => exact hp.elim
    | panic c => exact hp.elim
    | outgrown => exact hp.elim
  · rintro e W2 ⟨⟨v, rfl⟩, i, hi, hl, hd⟩
    have e := run_endLoop (P := P) hl (by rw [hr]; simp)
    have e2 : (r .done (some (.exit id))).pending = some (.exit id) := by rw [hr]
    rw [e2] at e
    exact ⟨some (.exit id), _, e, hstop i _ (hIx _ _ _ hi (Save.putObj W2 _ (.inr rfl))) ((World.putObj_heap_other (by omega)).trans hd)⟩
end Go.Proofs.YtpafocjmheemjaaDoor

set_option linter.unusedSimpArgs false
/- chain.steps' iterator: it has no end; the loop's body ends it. -/
namespace Go.Proofs.YtpafocjmheemjaaDoor
open Go.RowKit Go.Shelf Go.Proofs.YtpafocjmheemjaaDoorW.PrintWords
attribute [local go_sem] Oper.semAt_some
/-- the chain behind i steps -/
def chF (c : ByteArray) : Nat → ByteArray
  | 0 => c
  | i + 1 => stN (chF c i)
theorem chF_size (c : ByteArray) (h : c.size = 32) : ∀ i, (chF c i).size = 32
  | 0 => h
  | _ + 1 => stN_size _
attribute [local irreducible] Calls CallsIn mixF
theorem steps1_endless (n b N : Nat) (hn : 1 ≤ n) (c : ByteArray) (hc : c.size = 32) (w : World) (hb : w.heap[b]? = some (.cells #[.string c] 9 (0, 0))) :
    EndlessAt Fence.wide n Tryd.prog 93 #[.pointer (some ⟨b, 0, none⟩)] (fun i => #[.string (chF c (i + 1)), .string (stK (chF c i))]) b N KeysAt w := by
  intro l Y Yx W hY hN hY' h0 hsz hbW0
  have hbW := hbW0.trans hb
  refine callsIn_of_wp Tryd.func93 rfl trivial ?_ rfl
  simp only [Tryd.ntmps93, List.size_toArray, List.length_cons, List.length_nil, Nat.reduceAdd, Nat.reduceSub, Array.replicate_succ, Array.replicate_zero, List.push_toArray, List.append_toArray, List.nil_append, List.cons_append]
  gi_wp2
  obtain ⟨R, hR⟩ : ∃ R : Nat → World → Prop, R = fun m wr => m < N + 1 ∧ Y (N - m) wr ∧ wr.heap[b]? = some (.cells #[.string (chF c (N - m))] 9 (0, 0)) := ⟨_, rfl⟩
  gi_loopw [3] (fun (_ : Value) wr => ∃ m, R m wr)
    (fun (_ : Value) wr => leastOf (fun m => R m wr))
  case atStart => exact ⟨N, by rw [hR]; exact ⟨by omega, by rw [Nat.sub_self]; exact h0, by rw [Nat.sub_self]; exact hbW⟩⟩
  case round =>
    obtain ⟨⟨m, hm⟩, hleast⟩ : (∃ m, leastOf (fun m => R m wr) = m ∧ R m wr) ∧ True := ⟨⟨_, rfl, (leastOf_spec hrel).1⟩, trivial⟩
    clear hleast hrel
    obtain ⟨hm0, hm⟩ := hm
    have hm1 := hm
    rw [hR] at hm1
    obtain ⟨hmN, hY1, hb1⟩ := hm1
    obtain ⟨hlt, hK⟩ := hN _ _ hY1
    obtain ⟨i, hi⟩ : ∃ i, N - m = i := ⟨_, rfl⟩
    rw [hi] at hY1 hb1 hlt
    have hT0 : Calls Tryd.prog 71 #[.string (chF c i), .string stepW] wr fun e w' => e = .returned (.tuple #[.string (chF c (i + 1)), .string (stK (chF c i))]) ∧ Below wr.heap.size wr w' :=
      two_any (chF c i) stepW wr (by rw [chF_size c hc]; decide) (by decide) hK
    have hY2 : ∀ A, Y i A → YieldAt Fence.wide (n - 1) Tryd.prog l #[.string (chF c (i + 1)), .string (stK (chF c i))] A fun e B =>
      (e = .returned (.bool true) ∧ Y (i + 1) B ∧ B.heap[b]? = A.heap[b]?) ∨ (e = .returned (.bool false) ∧ Yx (i + 1) B) := fun A hA => hY' i A hA
    have hcell := blk_cell hb1 0
    have hT := Lib.hid hT0
    clear hT0 hY'
    obtain ⟨nx, hnx⟩ : ∃ nx, chF c (i + 1) = nx := ⟨_, rfl⟩
    have HNX := Lib.hid hnx
    rw [hnx] at hT hY2
    clear hnx
    generalize stK (chF c i) = ky at *
    unfold stepW at hT
    gi_wp2_with fail
    refine ⟨trivial, (callsIn_wide.2 hT.out).mono ?_⟩
    rintro e w1 ⟨rfl, hB⟩
    have hlt1 : b < wr.heap.size := (Array.getElem?_eq_some_iff.1 hb1).1
    have hb2 : w1.heap[b]? = some (.cells #[.string (chF c i)] 9 (0, 0)) := (hB.block b hlt1).trans hb1
    have hcell2 := blk_cell hb2 0
    have hfr2 : w1.frozen? ⟨b, 0, none⟩ = false := by unfold World.frozen?; simp [hb2]
    clear hT hcell
    obtain ⟨fn, tmps, assign, body, hy, hRd⟩ := hY2 (w1.setCell ⟨b, 0, none⟩ (.string nx)) (hY i _ _ hY1 ((Save.of_below hB).trans (Save.setCell _ _ rfl)))
    gi_wp2
    refine hRd.mono ?_
    rintro e W3 (⟨rfl, hJ3, hk3⟩ | ⟨rfl, hJx3⟩)
    · have hb3 : W3.heap[b]? = some (.cells #[.string (chF c (i + 1))] 9 (0, 0)) := by rw [HNX.out]; exact hk3.trans (one_setCell hb2)
      have HR' : R (m - 1) W3 := by
        have e : N - (m - 1) = i + 1 := by omega
        rw [hR]
        show m - 1 < N + 1 ∧ Y (N - (m - 1)) W3 ∧ W3.heap[b]? = some (.cells #[.string (chF c (N - (m - 1)))] 9 (0, 0))
        rw [e]
        exact ⟨by omega, hJ3, hb3⟩
      have HL := (leastOf_spec (p := fun m => R m W3) ⟨_, HR'⟩).2 _ HR'
      gi_wp2
      go_roundw
      case rel => exact ⟨m - 1, HR'⟩
      case measure => simp only [hm0]; omega
    · gi_wp2
      refine bodyPost_ret (results_none rfl _ _ _) rfl ?_
      exact ⟨⟨_, rfl⟩, _, hJx3⟩
end Go.Proofs.YtpafocjmheemjaaDoor

set_option linter.unusedSimpArgs false
/- chain.Run. -/
namespace Go.Proofs.YtpafocjmheemjaaDoor
open Go.RowKit Go.Proofs.YtpafocjmheemjaaDoorW.PrintWords
attribute [local go_sem] Oper.semAt_some
theorem Own.grown {w0 w w1 : World} {L : List (Nat × Obj)} (h : Own w0 L w) {row : Option Nat} (hg : w.grownBy w1 row) (hr : ∀ k, row = some k → w0.heap.size ≤ k ∧ k ∉ L.map (·.1)) : Own w0 L w1 :=
  ⟨h.below.grown hg h.below.size (fun k e => (hr k e).1), fun p hp => by
    have hm := h.mem p hp
    refine ⟨(hg.block p.1 (Array.getElem?_eq_some_iff.1 hm.1).1 (fun e => ?_)).trans hm.1, hm.2⟩
    exact (hr p.1 e.symm).2 (List.mem_map.2 ⟨p, hp, rfl⟩), h.nd⟩
theorem Own.save {w0 w w1 : World} {L : List (Nat × Obj)} {x : Nat → Prop} (h : Own w0 L w) (hs : Save x w w1) (hx : ∀ k, x k → w0.heap.size ≤ k ∧ k ∉ L.map (·.1)) : Own w0 L w1 :=
  ⟨h.below.trans ⟨hs.os, hs.tape, hs.output, hs.size, fun k hk => by
      by_cases hxk : x k
      · exact absurd (hx k hxk).1 (by omega)
      · exact hs.block k (Nat.lt_of_lt_of_le hk h.below.size) hxk⟩, fun p hp => by
    have hm := h.mem p hp
    refine ⟨(hs.block p.1 (Array.getElem?_eq_some_iff.1 hm.1).1 (fun hxk => ?_)).trans hm.1, hm.2⟩
    exact (hx p.1 hxk).2 (List.mem_map.2 ⟨p, hp, rfl⟩), h.nd⟩
theorem own_save {w w1 : World} {base e n : Nat} {v : Value} {xs : List Value} {x : Nat → Prop} (h : w.ownsRow base e 1 v n xs) (hs : Save x w w1) (hx : ∀ k, x k → k < base) : w1.ownsRow base e 1 v n xs :=
  own_move h (fun k hk => hs.block k (own_lt h k hk) (fun hxk => by have := own_base h k hk; have := hx k hxk; omega))
/-- the keys of so many steps -/
def keysL (c : ByteArray) (i : Nat) : List ByteArray := (List.range i).map fun j => stK (chF c j)
theorem keysL_len (c : ByteArray) (i : Nat) : (keysL c i).length = i := by unfold keysL; simp
theorem keysL_succ (c : ByteArray) (i : Nat) : keysL c (i + 1) = keysL c i ++ [stK (chF c i)] := by unfold keysL; rw [List.range_succ, List.map_append]; rfl
theorem R_OutC {α : Type} {d : Kd α} {e base : Nat} {ok : Nat → Prop} {w : World} {v : Value} {xs : List α} (h : d.R e w base ok v xs) : Out d w v xs := by
  obtain ⟨_, inner, ho, hr⟩ := h
  have hn : xs.length = xs.length := rfl
  obtain ⟨A, c, he, hc⟩ := own_reads_row ho (hr.imp_ (fun _ _ hp => d.K_of_M hp)) rfl
  refine ⟨A, c, he, ?_, ?_, hc⟩
  all_goals
    rcases ho.2 with ⟨e1, h0⟩ | ⟨g, cap, cur, e1, _, _, h2, h3, _⟩
    · rw [e1] at he; injection he with _ _ he; subst he; omega
    · rw [e1] at he; injection he with _ _ he; subst he; simp only [maxLen] at h3; omega
theorem outRow {w : World} {base e n : Nat} {v : Value} {xs : List ByteArray} (h : w.ownsRow base e 1 v n (xs.map Value.string)) (hn : xs.length = n) : Out Kd.string w v xs := by
  subst hn
  have h0 : ∀ x : ByteArray, (Value.string x).oneCell' = true := fun _ => rfl
  have hR : (Kd.scalar Value.string h0).R e w base (fun _ => True) v xs := Kd.R_of_own (by simpa [encs] using h) (fun _ _ => trivial)
  exact R_OutC hR
theorem own_slice {W : World} {base e n : Nat} {v : Value} {xs : List Value} (h : W.ownsRow base e 1 v (n + 1) xs)   : ∃ g cap, v = .slice (some ⟨g, 0, none⟩) (n + 1) cap ∧ base ≤ g := by
  rcases h.2 with ⟨_, h0⟩ | ⟨g, cap, cur, rfl, hb, _⟩
  · omega
  · exact ⟨g, cap, rfl, hb⟩
/-- what lies between the rounds -/
def runI (w : World) (B many : Nat) (c : ByteArray) (i : Nat) (W : World) : Prop :=
  ∃ v, Own w [(w.heap.size + 1 + 1, .cells #[v] 53 (0, 0)), (w.heap.size + 1, .cells #[.int .i64 (many : Int)] 3 (0, 0)), (w.heap.size, .cells #[.string (chF c i)] 9 (0, 0))] W ∧ W.ownsRow B 9 1 v i ((keysL c i).map Value.string)
theorem runI_mk {w W : World} {B many i : Nat} {c nx : ByteArray} {ys : List Value} {v : Value} (hn : chF c i = nx) (hy : (keysL c i).map Value.string = ys)
    (hO : Own w [(w.heap.size + 1 + 1, .cells #[v] 53 (0, 0)), (w.heap.size + 1, .cells #[.int .i64 (many : Int)] 3 (0, 0)), (w.heap.size, .cells #[.string nx] 9 (0, 0))] W) (hR : W.ownsRow B 9 1 v i ys) : runI w B many c i W := by
  subst hn hy
  exact ⟨v, hO, hR⟩
theorem endless_exit {ks : Nat → Prop} {I Ix : Nat → World → Prop} {id i : Nat} {W W' : World} {a : Act} (h1 : ∀ k, ks k → W'.heap[k]? = W.heap[k]?) (h2 : Ix (i + 1) W') : endlessPost ks I Ix id i W (.exit id) a W' := ⟨rfl, h1, h2⟩
theorem endless_normal {ks : Nat → Prop} {I Ix : Nat → World → Prop} {id i : Nat} {W W' : World} {a : Act} (h1 : ∀ k, ks k → W'.heap[k]? = W.heap[k]?) (h2 : I (i + 1) W') : endlessPost ks I Ix id i W .normal a W' := ⟨h1, h2⟩
theorem runI_save {w A B : World} {b many i : Nat} {c : ByteArray} {x : Nat → Prop} (h : runI w b many c i A) (hs : Save x A B) (h1 : ∀ k, x k → k < b) (h2 : ∀ k, x k → w.heap.size + 2 < k) : runI w b many c i B := by
  obtain ⟨v, hO, hR⟩ := h
  refine ⟨v, hO.save hs (fun k hk => ?_), own_save hR hs h1⟩
  have := h2 k hk
  exact ⟨by omega, by simp; omega⟩
theorem info_strR : (Tryd.prog.info? 9).map (fun i => (i.zero, i.size, i.bytes)) = some (some (.string ⟨#[]⟩), 1, 16) := by kernel_rfl
theorem steps_any (k : ByteArray) (w : World) : Calls Tryd.prog 73 #[.string k] w fun e w' => ∃ g, e = .returned (.func (.func 93) #[] #[.pointer (some ⟨g, 0, none⟩)]) ∧
    w.heap.size ≤ g ∧ w'.heap[g]? = some (.cells #[.string k] 9 (0, 0)) ∧ Below w.heap.size w w' := by
  go_enter Tryd.func73, Tryd.ntmps73
  go_wp2
  go_ret
  exact ⟨_, rfl, Nat.le_refl _, heap_alloc_new _ _, below_alloc (Below.refl _ _) _⟩
attribute [local irreducible] Calls CallsIn mixF
set_option maxHeartbeats 4000000 in
set_option maxRecDepth 100000 in
theorem Run_yes (c : ByteArray) (many : Nat) (h1 : c.size = 32) (h2 : 1 ≤ many) (h3 : many ≤ 64) (w : World) (hK : KeysAt w) :
    Calls Tryd.prog 49 #[.string c, .int .i64 (many : Int)] w fun e w' => (∃ v, e = .returned (.tuple #[.string (chF c many), v, .int .i64 0]) ∧ Out Kd.string w' v (keysL c many)) ∧ Below w.heap.size w w' := by
  have e1 : ((c.size : Int) != 32) = false := by rw [h1]; rfl
  have e2 : ¬ ((many : Int) < 0) := by omega
  have e3 : ¬ ((many : Int) > 64) := by omega
  have e4 : ((many : Int) == 0) = false := by rw [beq_eq_false_iff_ne]; omega
  have HO := ((Own.start w).alloc' (.cells #[.string c] 9) rfl).alloc' (.cells #[.int .i64 (many : Int)] 3) (by simp : _ = w.heap.size + 1)
  have c0 := HO.cell 1 rfl
  have c1 := HO.cell 0 rfl
  have HC := Lib.hid h1
  clear h1
  refine (callsIn_wide (n := 9)).1 (callsIn_of_wp_marks Tryd.func49 rfl trivial (wpIn_wide.2 ?_) rfl)
  simp only [Tryd.ntmps49, List.size_toArray, List.length_cons, List.length_nil, Nat.reduceAdd, Nat.reduceSub, Array.replicate_succ, Array.replicate_zero, List.push_toArray, List.append_toArray, List.nil_append, List.cons_append]
  go_wp2_with fail
  clear c0 c1
  replace HO := HO.alloc' (.cells #[.slice none 0 0] 53) (by simp : _ = w.heap.size + 1 + 1)
  refine (steps_any c _).mono ?_
  rintro e w1 ⟨g, rfl, hge, hg, hb⟩
  replace HO := HO.up hb
  clear hb
  have hge : w.heap.size + 3 ≤ g := by have := hge; simp at this; omega
  have hlt : g < w1.heap.size := (Array.getElem?_eq_some_iff.1 hg).1
  go_wp2_with fail
  refine (wpIn_wide (n := 9)).1 ?_
  refine range_endless (F := Fence.wide) rfl (by omega) (gf := 93) (lb := #[.pointer (some ⟨g, 0, none⟩)]) rfl trivial (enters_of Tryd.func93 (by kernel_rfl) rfl) (b := g) (N := many) (Kp := KeysAt) hlt
    (steps1_endless _ g many (by omega) c HC.out w1 hg) (fun _ => rfl)
    (fun i W => i < many ∧ runI w (w1.heap.size + 2) many c i W) (fun i W => i = many ∧ runI w (w1.heap.size + 2) many c i W)
    (fun i A B h hs => ⟨h.1, runI_save h.2 hs (fun k hk => by rcases hk with rfl | rfl | rfl <;> omega) (fun k hk => by rcases hk with rfl | rfl | rfl <;> omega)⟩)
    (fun i A B h hs => ⟨h.1, runI_save h.2 hs (fun k hk => by rcases hk with rfl | rfl <;> omega) (fun k hk => by rcases hk with rfl | rfl <;> omega)⟩)
    (fun i A h => ⟨h.1, by obtain ⟨v, hO, _⟩ := h.2; exact hK.up hO.below⟩)
    ⟨by omega, _, HO, own_nil _ _ _ _⟩
    (fun i => { tmps := #[.string c, .int .i64 (many : Int), .pointer (some ⟨w.heap.size, 0, none⟩), .pointer (some ⟨w.heap.size + 1, 0, none⟩), .string ⟨#[]⟩, .slice none 0 0, .int .i64 0, .pointer (some ⟨w.heap.size + 1 + 1, 0, none⟩), .string (chF c (i + 1)), .string (stK (chF c i)), .string c, .int .i64 (c.size : Int), .bool false, .bool false, .int .i64 (many : Int), .bool false, .bool false, .bool false, .int .i64 (many : Int), .bool false, .bool false, .int .i64 (many : Int), .bool false, undef, .string c, .func (.func 93) #[] #[.pointer (some ⟨g, 0, none⟩)], .string (chF c (i + 1)), .string (stK (chF c i)), undef, undef, undef, undef, undef, undef, undef, undef, undef, undef, undef], defers := [] }) 0 ?assign ?body ?stop
  case assign =>
    intro l i W K hK
    gi_wp2
    exact hK
  case body =>
    clear HO
    rintro i W ⟨hi, v, HO, hR⟩ hW
    refine wpIn_block ?_
    have c2 := HO.cell 0 rfl
    have hsn := keysL_succ c i
    generalize hnx : chF c (i + 1) = nx at *
    have HNX := Lib.hid hnx
    clear hnx
    generalize stK (chF c i) = ky at *
    have hmk : (keysL c (i + 1)).map Value.string = (keysL c i).map Value.string ++ [.string ky] := by rw [hsn]; simp
    have HMK := Lib.hid hmk
    clear hmk hsn
    obtain ⟨i0, hi0, hz0, hz1, hz2⟩ := info_parts info_strR
    have hold : ∀ k, w1.heap.size + 2 ≤ k → w.heap.size ≤ k ∧ k ∉ [(w.heap.size + 1 + 1, Obj.cells #[v] 53 (0, 0)), (w.heap.size + 1, Obj.cells #[.int .i64 (many : Int)] 3 (0, 0)), (w.heap.size, Obj.cells #[.string (chF c i)] 9 (0, 0))].map (·.1) := fun k hk => ⟨by omega, by simp; omega⟩
    by_cases hend : i + 1 = many
    all_goals have HE := Lib.hid hend
    all_goals
      first
        | have e5 : ((i : Int) + 1 == (many : Int)) = true := by (rw [beq_iff_eq]; omega)
        | have e5 : ((i : Int) + 1 == (many : Int)) = false := by (rw [beq_eq_false_iff_ne]; omega)
      clear hend
      gi_wp2_with (gi_at_builtin; refine wpListIn_append_own _ rfl (.tmp 29) (.tmp 31) 53 rfl (w1.heap.size + 2) 9 i0 (.string ⟨#[]⟩) 1 16 Tryd.underlying53 hi0 hz0 hz1 hz2 rfl (by decide) _ _ _ rfl (hR.alloc _) ⟨W.heap.size, 0, none⟩ 1 1 [.string ky] rfl rfl (cell_one_new _ _ _) (by intro u hu; rw [List.mem_singleton.1 hu]; rfl) (by unfold maxLen; omega) (by omega) (by simp; omega) ?_; intro v' w2 hR2 hg2 _; obtain ⟨g', cap', rfl, hgb⟩ := own_slice hR2; have HKS := Lib.hid (fun (k : Nat) (hk : k = g ∨ k = w1.heap.size ∨ k = w1.heap.size + 1) => (hg2.block k (by simp; omega) (fun e => by have := own_base hR k e.symm; omega)).trans (Below.heap_alloc W _ k (by omega))); replace HO := (HO.up (below_alloc (Below.refl _ _) _)).grown hg2 (fun k hk => hold k (own_base hR k hk)); clear c2; have f0 := HO.frozen 0 rfl; have f2 := HO.frozen 2 rfl; have c0 := HO.cell 0 rfl; have c1 := HO.cell 1 rfl; have c2 := HO.cell 2 rfl)
      have hz : W.heap.size ≤ w2.heap.size := by have := hg2.size; simp at this; omega
      clear f0 f2 c0 c1 c2
      have HO2 := (HO.set' 2 rfl 0 (.string nx) (L' := [(w.heap.size + 1 + 1, .cells #[v] 53 (0, 0)), (w.heap.size + 1, .cells #[.int .i64 (many : Int)] 3 (0, 0)), (w.heap.size, .cells #[.string nx] 9 (0, 0))]) rfl).set' 0 rfl 0 (.slice (some ⟨g', 0, none⟩) (i + 1) cap') (L' := [(w.heap.size + 1 + 1, .cells #[.slice (some ⟨g', 0, none⟩) (i + 1) cap'] 53 (0, 0)), (w.heap.size + 1, .cells #[.int .i64 (many : Int)] 3 (0, 0)), (w.heap.size, .cells #[.string nx] 9 (0, 0))]) rfl
      have hS : Save (fun k => k = w.heap.size ∨ k = w.heap.size + 1 + 1) w2 ((w2.setCell ⟨w.heap.size, 0, none⟩ (.string nx)).setCell ⟨w.heap.size + 1 + 1, 0, none⟩ (.slice (some ⟨g', 0, none⟩) (i + 1) cap')) := (Save.setCell _ _ (.inl rfl)).trans (Save.setCell _ _ (.inr rfl))
      have hR3 := own_save hR2 hS (fun k hk => by rcases hk with rfl | rfl <;> omega)
      have HK3 := fun (k : Nat) (hk : k = g ∨ k = w1.heap.size ∨ k = w1.heap.size + 1) => (hS.block k (by omega) (by omega)).trans (HKS.out k hk)
      first
        | (with_reducible refine endless_exit HK3 ?_)
          exact ⟨HE.out, runI_mk HNX.out HMK.out HO2 hR3⟩
        | (with_reducible refine endless_normal HK3 ?_)
          exact ⟨by have := HE.out; omega, runI_mk HNX.out HMK.out HO2 hR3⟩
  case stop =>
    clear HO
    rintro i W ⟨rfl, v, HO, hR⟩ hD
    refine wpIn_exit ?_
    have hDlt := (Array.getElem?_eq_some_iff.1 hD).1
    go_wp2_with fail
    refine wp_cutS (fun a' W' => a' = { tmps := #[.string c, .int .i64 (i : Int), .pointer (some ⟨w.heap.size, 0, none⟩), .pointer (some ⟨w.heap.size + 1, 0, none⟩), .string (chF c i), v, .int .i64 0, .pointer (some ⟨w.heap.size + 1 + 1, 0, none⟩), undef, undef, .string c, .int .i64 (c.size : Int), .bool false, .bool false, .int .i64 (i : Int), .bool false, .bool false, .bool false, .int .i64 (i : Int), .bool false, .bool false, .int .i64 (i : Int), .bool false, undef, .string c, .func (.func 93) #[] #[.pointer (some ⟨g, 0, none⟩)], undef, undef, undef, undef, undef, undef, undef, undef, undef, undef, undef, .string (chF c i), v], defers := [{ target := .collected w1.heap.size, args := #[] }] } ∧ Gr W W') ?region ?rest
    case region =>
      intro M' hM'
      refine kall [(0, true, some 37), (2, true, some 4), (1, true, some 38), (3, true, some 5), (4, true, some 6)] (by kernel_rfl) rfl (by kernel_rfl) rfl (fun _ _ _ _ _ h => h) ?_
      (refine sB (v := ?_) (a' := ?_) rfl rfl (by rfl) ?_ ?_ ?_; rotate_left 2; (· intro w1 hg; have h0 := (HO.up hg).cell 0 rfl; have h2 := (HO.up hg).cell 2 rfl; go_simp; with_reducible rfl); (· simp only [Act.put, List.setIfInBounds_toArray, List.set_cons_zero, List.set_cons_succ, kw64, kw32]; rfl))
      (refine sP (v := ?_) (a' := ?_) rfl rfl (by rfl) ?_ ?_ ?_; rotate_left 2; (· intro w'; go_simp; with_reducible rfl); (· simp only [Act.put, List.setIfInBounds_toArray, List.set_cons_zero, List.set_cons_succ, kw64, kw32]; rfl))
      (refine sB (v := ?_) (a' := ?_) rfl rfl (by rfl) ?_ ?_ ?_; rotate_left 2; (· intro w1 hg; have h0 := (HO.up hg).cell 0 rfl; have h2 := (HO.up hg).cell 2 rfl; go_simp; with_reducible rfl); (· simp only [Act.put, List.setIfInBounds_toArray, List.set_cons_zero, List.set_cons_succ, kw64, kw32]; rfl))
      (refine sP (v := ?_) (a' := ?_) rfl rfl (by rfl) ?_ ?_ ?_; rotate_left 2; (· intro w'; go_simp; with_reducible rfl); (· simp only [Act.put, List.setIfInBounds_toArray, List.set_cons_zero, List.set_cons_succ, kw64, kw32]; rfl))
      (refine sP (v := ?_) (a' := ?_) rfl rfl (by rfl) ?_ ?_ ?_; rotate_left 2; (· intro w'; go_simp; with_reducible rfl); (· simp only [Act.put, List.setIfInBounds_toArray, List.set_cons_zero, List.set_cons_succ, kw64, kw32]; rfl))
      intro w1 hg
      exact hM'.out _ _ ⟨rfl, hg⟩
    case rest =>
      rintro a' W' ⟨rfl, hg2⟩
      replace HO := HO.up hg2
      replace hD := (hg2.block _ hDlt).trans hD
      have hR2 := own_move hR (fun k hk => hg2.block k (own_lt hR k hk))
      go_wp2_with fail
      refine ⟨by simp, .inl ⟨_, _, rfl, run_takeDeferred hD, ?_⟩⟩
      refine ⟨.tuple #[.string (chF c i), v, .int .i64 0], by simp [results, Tryd.results49, go_sem], ?_⟩
      refine ⟨⟨v, rfl, outRow (own_move hR2 (fun k hk => World.putObj_heap_other (by have := own_base hR2 k hk; omega))) (keysL_len c i)⟩, ?_⟩
      exact HO.below.trans (belowK_b (w := w) (Nat.le_refl _) W' w1.heap.size _ _ (by omega) hD rfl rfl)
end Go.Proofs.YtpafocjmheemjaaDoor

set_option linter.unusedSimpArgs false
/- the reference's Run. -/
namespace Go.Proofs.YtpafocjmheemjaaDoor
open Go.RowKit Go.Proofs.YtpafocjmheemjaaDoorW.PrintWords
theorem own_shape {W : World} {base e n : Nat} {v : Value} {xs : List Value} (h : W.ownsRow base e 1 v n xs) : ∃ A cap, v = .slice A n cap := by
  rcases h.2 with ⟨rfl, h0⟩ | ⟨g, cap, cur, rfl, hb, _⟩
  · exact ⟨none, 0, by rw [h0]⟩
  · exact ⟨_, cap, rfl⟩
attribute [local irreducible] Calls mixF
set_option maxHeartbeats 4000000 in
set_option maxRecDepth 100000 in
theorem RRun_any (A1 : Option Addr) (c1 : Nat) (A2 : Option Addr) (c2 : Nat) (c : ByteArray) (many : Nat) (w : World) (hK : KAt w A1 c1 A2 c2) (hs : c.size = 32) (hm : many ≤ 64) :
    Calls Tryd.prog 50 #[kV A1 c1 A2 c2, .string c, .int .i64 (many : Int)] w fun e w' => (∃ v, e = .returned (.agg #[.string (chF c many), v]) ∧ Out Kd.string w' v (keysL c many)) ∧ Below w.heap.size w w' := by
  have HC := Lib.hid hs
  have HKK := Lib.hid (fun w1 (hg : Gr w w1) => hK.up hg)
  clear hs hK
  unfold kV
  have HO := (((Own.start w).alloc' (.cells #[.slice A1 64 c1, .slice A2 8 c2] 37) rfl).alloc' (.cells #[.string ⟨#[]⟩, .slice none 0 0] 72) (by simp : _ = w.heap.size + 1)).alloc' (.cells #[.string c, .slice none 0 0] 72) (by simp : _ = w.heap.size + 1 + 1)
  go_enter Tryd.func50, Tryd.ntmps50
  go_wp2_with fail
  go_loopw [8] (fun c8 wr => ∃ i : Nat, c8 = .int .i64 (i : Int) ∧ Aside0 (i ≤ many ∧ ∃ v, Own w [(w.heap.size + 1 + 1, .cells #[.string (chF c i), v] 72 (0, 0)), (w.heap.size + 1, .cells #[.string ⟨#[]⟩, .slice none 0 0] 72 (0, 0)), (w.heap.size, .cells #[.slice A1 64 c1, .slice A2 8 c2] 37 (0, 0))] wr ∧ wr.ownsRow (w.heap.size + 3) 9 1 v i ((keysL c i).map Value.string))) (fun c8 _ => many - (intOf c8).toNat)
  case atStart => exact ⟨0, rfl, ⟨by omega, _, HO, own_nil _ _ _ _⟩⟩
  case round =>
    clear HO
    obtain ⟨i, rfl, hrel⟩ := hrel
    obtain ⟨hi, v, HO, hR⟩ := hrel.out
    clear hrel
    by_cases hlt : i < many
    · have hlt' : (i : Int) < (many : Int) := by omega
      have HS := Lib.hid (fun w1 (hg : Gr wr w1) => RStep_any A1 c1 A2 c2 (chF c i) w1 (HKK.out _ (HO.below.trans (gr_bel hg HO.below.size))) (by rw [chF_size c HC.out]; decide))
      unfold kV at HS
      have hsn := keysL_succ c i
      have hmk : (keysL c (i + 1)).map Value.string = (keysL c i).map Value.string ++ [.string (stK (chF c i))] := by rw [hsn]; simp
      have HMK := Lib.hid hmk
      have HNX := Lib.hid (show chF c (i + 1) = stN (chF c i) from rfl)
      clear hmk hsn
      generalize stN (chF c i) = nx at *
      generalize stK (chF c i) = ky at *
      obtain ⟨i0, hi0, hz0, hz1, hz2⟩ := info_parts info_strR
      have c0 := HO.cell 2 rfl
      have c2' := HO.cell 0 rfl
      go_wp2_with fail
      clear c0 c2'
      refine (HS.out _ (Gr.refl _)).mono ?_
      rintro e w1 ⟨rfl, hb⟩
      replace HO := HO.up hb
      replace hR := own_move hR (fun k hk => hb.block k (own_lt hR k hk))
      clear hb HS
      replace HO := HO.alloc' (.cells #[.string nx, .string ky] 64) rfl
      have c0 := HO.cell 0 rfl
      have c1' := HO.cell 1 rfl
      have f1 := HO.frozen 1 rfl
      have HO2 := HO.set' 1 rfl 0 (.string nx) (L' := [(w1.heap.size, .cells #[.string nx, .string ky] 64 (0, 0)), (w.heap.size + 1 + 1, .cells #[.string (nx), v] 72 (0, 0)), (w.heap.size + 1, .cells #[.string ⟨#[]⟩, .slice none 0 0] 72 (0, 0)), (w.heap.size, .cells #[.slice A1 64 c1, .slice A2 8 c2] 37 (0, 0))]) rfl
      have hR2 : ((w1.alloc (.cells #[.string nx, .string ky] 64)).setCell ⟨w.heap.size + 1 + 1, 0, none⟩ (.string nx)).ownsRow (w.heap.size + 3) 9 1 v i ((keysL c i).map Value.string) :=
        own_move (hR.alloc _) (fun k hk => Below.heap_setCell _ _ _ k (by have := own_base hR k hk; show k ≠ w.heap.size + 1 + 1; omega))
      have hC2 := cell_one_new ((w1.alloc (.cells #[.string nx, .string ky] 64)).setCell ⟨w.heap.size + 1 + 1, 0, none⟩ (.string nx)) (.string ky) 9
      have hsz : ((w1.alloc (.cells #[.string nx, .string ky] 64)).setCell ⟨w.heap.size + 1 + 1, 0, none⟩ (.string nx)).heap.size = w1.heap.size + 1 := by simp [World.setCell]
      have hlo : w.heap.size + 3 ≤ w1.heap.size + 1 := by have := HO.lt 1 rfl; simp at this; omega
      rw [hsz] at hC2
      have HSZ := Lib.hid hsz
      have HR2 := Lib.hid hR2
      have HO2' := Lib.hid HO2
      have HC2 := Lib.hid hC2
      have HLT := Lib.hid (fun (k : Nat) (hk : v.ownBlock = some k) => own_lt hR k hk)
      clear hsz hR2 HO2 hC2 hR
      go_wp2_with (at_builtin; refine wpList_append_own _ rfl (.tmp 25) (.tmp 28) 53 rfl (w.heap.size + 3) 9 i0 (.string ⟨#[]⟩) 1 16 Tryd.underlying53 hi0 hz0 hz1 hz2 rfl (by decide) _ _ _ rfl (HR2.out.alloc _) ⟨w1.heap.size + 1, 0, none⟩ 1 1 [.string ky] rfl rfl HC2.out (by intro u hu; rw [List.mem_singleton.1 hu]; rfl) (by unfold maxLen; omega) (by omega) (by rw [World.size_alloc, HSZ.out]; omega) ?_; intro v' w2 hR3 hg2 _; obtain ⟨g', cap', rfl, hgb⟩ := own_slice hR3; replace HO := (HO2'.out.up (below_alloc (Below.refl _ _) _)).grown hg2 (fun k hk => by have h1 := own_base HR2.out k hk; have h2 := HLT.out k hk; exact ⟨by omega, by simp; omega⟩); clear c0 c1' f1; have f1 := HO.frozen 1 rfl; have c1' := HO.cell 1 rfl)
      have hR4 := own_move hR3 (w1 := w2.setCell ⟨w.heap.size + 1 + 1, 1, none⟩ (.slice (some ⟨g', 0, none⟩) (i + 1) cap')) (fun k hk => Below.heap_setCell _ _ _ k (by have := own_base hR3 k hk; show k ≠ w.heap.size + 1 + 1; omega))
      replace HO := (HO.set' 1 rfl 1 (.slice (some ⟨g', 0, none⟩) (i + 1) cap') (L' := [(w1.heap.size, .cells #[.string nx, .string ky] 64 (0, 0)), (w.heap.size + 1 + 1, .cells #[.string nx, .slice (some ⟨g', 0, none⟩) (i + 1) cap'] 72 (0, 0)), (w.heap.size + 1, .cells #[.string ⟨#[]⟩, .slice none 0 0] 72 (0, 0)), (w.heap.size, .cells #[.slice A1 64 c1, .slice A2 8 c2] 37 (0, 0))]) rfl).drop _ (List.tail_sublist _)
      rw [← HMK.out] at hR4
      rw [← HNX.out] at HO
      have HOh := Lib.hid HO
      have HRh := Lib.hid hR4
      clear f1 c1' HC2 HR2 HO2' HO hR3 hR4
      go_roundw
      case rel => exact ⟨i + 1, by go_num, ⟨by omega, _, HOh.out, HRh.out⟩⟩
      case measure => simp [intOf]; omega
    · obtain rfl : i = many := by omega
      have hge' : ¬ ((i : Int) < (i : Int)) := by omega
      obtain ⟨A, cap, rfl⟩ := own_shape hR
      have c1' := HO.cell 0 rfl
      have f0 := HO.frozen 1 rfl
      have c0 := HO.cell 1 rfl
      have HO2 := (HO.set' 1 rfl 0 (.string (chF c i)) (L' := [(w.heap.size + 1 + 1, .cells #[.string (chF c i), .slice A i cap] 72 (0, 0)), (w.heap.size + 1, .cells #[.string (chF c i), .slice none 0 0] 72 (0, 0)), (w.heap.size, .cells #[.slice A1 64 c1, .slice A2 8 c2] 37 (0, 0))]) rfl).set' 1 rfl 1 (.slice A i cap) (L' := [(w.heap.size + 1 + 1, .cells #[.string (chF c i), .slice A i cap] 72 (0, 0)), (w.heap.size + 1, .cells #[.string (chF c i), .slice A i cap] 72 (0, 0)), (w.heap.size, .cells #[.slice A1 64 c1, .slice A2 8 c2] 37 (0, 0))]) rfl
      have hOut := outRow (own_move hR (w1 := (wr.setCell ⟨w.heap.size + 1, 0, none⟩ (.string (chF c i))).setCell ⟨w.heap.size + 1, 1, none⟩ (.slice A i cap)) (fun k hk => (Below.heap_setCell _ _ _ k (by have := own_base hR k hk; show k ≠ w.heap.size + 1; omega)).trans (Below.heap_setCell _ _ _ k (by have := own_base hR k hk; show k ≠ w.heap.size + 1; omega)))) (keysL_len c i)
      have HO2' := Lib.hid HO2
      have HOUT := Lib.hid hOut
      clear HO2 hOut
      go_wp2
      exact bodyPost_ret (v := .agg #[.string (chF c i), .slice A i cap]) (results_cell_row Tryd.results50 _ _ (w.heap.size + 1) 72 _ (0, 0) _ (by rfl) (HO2'.out.blk 1 rfl) Tryd.underlying72 rfl (by kernel_rfl)) rfl ⟨⟨_, rfl, HOUT.out⟩, HO2'.out.below⟩
end Go.Proofs.YtpafocjmheemjaaDoor

set_option linter.unusedSimpArgs false
/- LAYER 10: any steps at once. -/
namespace Go.Proofs.YtpafocjmheemjaaDoor
open Go.RowKit Go.Proofs.YtpafocjmheemjaaDoorW.PrintWords
attribute [local irreducible] Calls mixF
set_option maxHeartbeats 4000000 in
theorem Run_zero (c : ByteArray) (h1 : c.size = 32) (w : World) :
    Calls Tryd.prog 49 #[.string c, .int .i64 0] w fun e w' => e = .returned (.tuple #[.string c, .slice none 0 0, .int .i64 0]) ∧ Below w.heap.size w w' := by
  have e1 : ((c.size : Int) != 32) = false := by rw [h1]; rfl
  clear h1
  go_enter Tryd.func49, Tryd.ntmps49
  go_wp2
  go_ret3
  exact ⟨rfl, below_alloc (below_alloc (Below.refl _ _) _) _⟩
theorem Run_ok (c : ByteArray) (many : Nat) (h1 : c.size = 32) (h3 : many ≤ 64) (w : World) (hK : KeysAt w) :
    Calls Tryd.prog 49 #[.string c, .int .i64 (many : Int)] w fun e w' => (∃ v, e = .returned (.tuple #[.string (chF c many), v, .int .i64 0]) ∧ Out Kd.string w' v (keysL c many)) ∧ Below w.heap.size w w' := by
  rcases Nat.eq_zero_or_pos many with rfl | h2
  · refine (Run_zero c h1 w).mono ?_
    rintro e w' ⟨rfl, hb⟩
    exact ⟨⟨_, rfl, Out_nil _ _⟩, hb⟩
  · exact Run_yes c many h1 h2 h3 w hK
set_option maxHeartbeats 4000000 in
theorem Run_no (c : ByteArray) (m : Int) (h : ¬ (c.size = 32 ∧ 0 ≤ m ∧ m ≤ 64)) (w : World) :
    Calls Tryd.prog 49 #[.string c, .int .i64 m] w fun e w' => e = .returned (.tuple #[.string ⟨#[]⟩, .slice none 0 0, .int .i64 2]) ∧ Below w.heap.size w w' := by
  by_cases h1 : c.size = 32
  · have e1 : ((c.size : Int) != 32) = false := by rw [h1]; rfl
    by_cases h2 : m < 0
    · clear h h1
      go_enter Tryd.func49, Tryd.ntmps49
      go_wp2
      go_ret3
      exact ⟨rfl, below_alloc (below_alloc (Below.refl _ _) _) _⟩
    · have h3 : m > 64 := by omega
      clear h h1
      go_enter Tryd.func49, Tryd.ntmps49
      go_wp2
      go_ret3
      exact ⟨rfl, below_alloc (below_alloc (Below.refl _ _) _) _⟩
  · have e1 : ((c.size : Int) != 32) = true := by rw [bne_iff_ne]; omega
    clear h h1
    go_enter Tryd.func49, Tryd.ntmps49
    go_wp2
    go_ret3
    exact ⟨rfl, below_alloc (below_alloc (Below.refl _ _) _) _⟩
end Go.Proofs.YtpafocjmheemjaaDoor

set_option linter.unusedSimpArgs false
/- LAYER 10: ChainRuns. -/
namespace Go.Proofs.YtpafocjmheemjaaDoor
open Go.RowKit Go.Proofs.YtpafocjmheemjaaDoorW.PrintWords
attribute [local irreducible] Calls mixF
set_option maxHeartbeats 8000000 in
set_option maxRecDepth 100000 in
theorem CR_a_no (c0 : ByteArray) (m0 : Int) (W : World) (h : 12 < m0 ∧ m0 ≤ 64) (hc : (headB c0 40).size ≠ 32) (hK : KeysAt W) :
    Calls Tryd.prog 11 #[.string c0, .int .i64 m0] W fun e W' => e = .returned (.bool true) ∧ Below W.heap.size W W' := by
  have HC1 := Lib.hid (cut10 c0)
  generalize headB c0 40 = c at *
  obtain ⟨m, hm⟩ : ∃ m : Nat, (m : Int) = 8 + m0 % 5 := ⟨(8 + m0 % 5).toNat, by omega⟩
  have hm1 : Int.tmod m0 5 = m0 % 5 := Int.tmod_eq_emod_of_nonneg (by omega)
  have g1 : m0 > 12 := by omega
  have g2 : m0 ≤ 64 := by omega
  have hm2 : 8 + m0 % 5 = (m : Int) := hm.symm
  have hm3 : m ≤ 12 := by omega
  have hm4 : 8 ≤ m := by omega
  have HO := Own.start W
  clear hm
  have HAl := Lib.hid (fun w1 (hg : Gr W w1) => alive10 w1 (hK.up hg))
  have HR := Lib.hid (fun w1 => Run_no c (m : Int) (fun h => hc h.1) w1)
  have e1 : ((c.size : Int) != 32) = true := by rw [bne_iff_ne]; omega
  clear hK hc h
  go_enter Tryd.func11, Tryd.ntmps11
  go_wp2_with fail
  refine (HC1.out _).mono ?_
  rintro e w3 ⟨rfl, hb⟩
  replace HO := HO.up hb
  clear hb
  go_wp2_with fail
  refine (HR.out _).mono ?_
  rintro e w3 ⟨rfl, hb⟩
  replace HO := HO.up hb
  clear hb
  go_wp2_with fail
  refine (HAl.out _ HO.below).mono ?_
  rintro e w3 ⟨rfl, hb⟩
  replace HO := HO.up hb
  clear hb
  go_wp2
  go_ret
  exact ⟨rfl, HO.below⟩
set_option maxHeartbeats 8000000 in
set_option maxRecDepth 100000 in
theorem CR_b_no1 (c0 : ByteArray) (m0 : Int) (W : World) (h : m0 ≤ 12) (hc : (headB c0 40).size ≠ 32) (hK : KeysAt W) :
    Calls Tryd.prog 11 #[.string c0, .int .i64 m0] W fun e W' => e = .returned (.bool true) ∧ Below W.heap.size W W' := by
  have HC1 := Lib.hid (cut10 c0)
  generalize headB c0 40 = c at *
  have HO := Own.start W
  have g1 : ¬ (m0 > 12) := by omega
  have HAl := Lib.hid (fun w1 (hg : Gr W w1) => alive10 w1 (hK.up hg))
  have HR := Lib.hid (fun w1 => Run_no c m0 (fun h => hc h.1) w1)
  have e1 : ((c.size : Int) != 32) = true := by rw [bne_iff_ne]; omega
  clear hK hc h
  go_enter Tryd.func11, Tryd.ntmps11
  go_wp2_with fail
  refine (HC1.out _).mono ?_
  rintro e w3 ⟨rfl, hb⟩
  replace HO := HO.up hb
  clear hb
  go_wp2_with fail
  refine (HR.out _).mono ?_
  rintro e w3 ⟨rfl, hb⟩
  replace HO := HO.up hb
  clear hb
  go_wp2_with fail
  refine (HAl.out _ HO.below).mono ?_
  rintro e w3 ⟨rfl, hb⟩
  replace HO := HO.up hb
  clear hb
  go_wp2
  go_ret
  exact ⟨rfl, HO.below⟩
set_option maxHeartbeats 8000000 in
set_option maxRecDepth 100000 in
theorem CR_b_no2 (c0 : ByteArray) (m0 : Int) (W : World) (h : 64 < m0) (hc : (headB c0 40).size ≠ 32) (hK : KeysAt W) :
    Calls Tryd.prog 11 #[.string c0, .int .i64 m0] W fun e W' => e = .returned (.bool true) ∧ Below W.heap.size W W' := by
  have HC1 := Lib.hid (cut10 c0)
  generalize headB c0 40 = c at *
  have HO := Own.start W
  have g1 : m0 > 12 := by omega
  have g2 : ¬ (m0 ≤ 64) := by omega
  have HAl := Lib.hid (fun w1 (hg : Gr W w1) => alive10 w1 (hK.up hg))
  have HR := Lib.hid (fun w1 => Run_no c m0 (fun h => hc h.1) w1)
  have e1 : ((c.size : Int) != 32) = true := by rw [bne_iff_ne]; omega
  clear hK hc h
  go_enter Tryd.func11, Tryd.ntmps11
  go_wp2_with fail
  refine (HC1.out _).mono ?_
  rintro e w3 ⟨rfl, hb⟩
  replace HO := HO.up hb
  clear hb
  go_wp2_with fail
  refine (HR.out _).mono ?_
  rintro e w3 ⟨rfl, hb⟩
  replace HO := HO.up hb
  clear hb
  go_wp2_with fail
  refine (HAl.out _ HO.below).mono ?_
  rintro e w3 ⟨rfl, hb⟩
  replace HO := HO.up hb
  clear hb
  go_wp2
  go_ret
  exact ⟨rfl, HO.below⟩
set_option maxHeartbeats 8000000 in
set_option maxRecDepth 100000 in
theorem CR_b_no3 (c0 : ByteArray) (m0 : Int) (W : World) (h : m0 < 0) (hc : (headB c0 40).size = 32) (hK : KeysAt W) :
    Calls Tryd.prog 11 #[.string c0, .int .i64 m0] W fun e W' => e = .returned (.bool true) ∧ Below W.heap.size W W' := by
  have HC1 := Lib.hid (cut10 c0)
  generalize headB c0 40 = c at *
  have HO := Own.start W
  have g1 : ¬ (m0 > 12) := by omega
  have HAl := Lib.hid (fun w1 (hg : Gr W w1) => alive10 w1 (hK.up hg))
  have HR := Lib.hid (fun w1 => Run_no c m0 (fun h => by omega) w1)
  have e1 : ((c.size : Int) != 32) = false := by rw [hc]; rfl
  clear hK hc
  go_enter Tryd.func11, Tryd.ntmps11
  go_wp2_with fail
  refine (HC1.out _).mono ?_
  rintro e w3 ⟨rfl, hb⟩
  replace HO := HO.up hb
  clear hb
  go_wp2_with fail
  refine (HR.out _).mono ?_
  rintro e w3 ⟨rfl, hb⟩
  replace HO := HO.up hb
  clear hb
  go_wp2_with fail
  refine (HAl.out _ HO.below).mono ?_
  rintro e w3 ⟨rfl, hb⟩
  replace HO := HO.up hb
  clear hb
  go_wp2
  go_ret
  exact ⟨rfl, HO.below⟩
set_option maxHeartbeats 8000000 in
set_option maxRecDepth 100000 in
theorem CR_b_no4 (c0 : ByteArray) (m0 : Int) (W : World) (h : 64 < m0) (hc : (headB c0 40).size = 32) (hK : KeysAt W) :
    Calls Tryd.prog 11 #[.string c0, .int .i64 m0] W fun e W' => e = .returned (.bool true) ∧ Below W.heap.size W W' := by
  have HC1 := Lib.hid (cut10 c0)
  generalize headB c0 40 = c at *
  have HO := Own.start W
  have g1 : m0 > 12 := by omega
  have g2 : ¬ (m0 ≤ 64) := by omega
  have g3 : ¬ (m0 < 0) := by omega
  have g4 : m0 > 64 := h
  have HAl := Lib.hid (fun w1 (hg : Gr W w1) => alive10 w1 (hK.up hg))
  have HR := Lib.hid (fun w1 => Run_no c m0 (fun h => by omega) w1)
  have e1 : ((c.size : Int) != 32) = false := by rw [hc]; rfl
  clear hK hc h
  go_enter Tryd.func11, Tryd.ntmps11
  go_wp2_with fail
  refine (HC1.out _).mono ?_
  rintro e w3 ⟨rfl, hb⟩
  replace HO := HO.up hb
  clear hb
  go_wp2_with fail
  refine (HR.out _).mono ?_
  rintro e w3 ⟨rfl, hb⟩
  replace HO := HO.up hb
  clear hb
  go_wp2_with fail
  refine (HAl.out _ HO.below).mono ?_
  rintro e w3 ⟨rfl, hb⟩
  replace HO := HO.up hb
  clear hb
  go_wp2
  go_ret
  exact ⟨rfl, HO.below⟩
set_option maxHeartbeats 8000000 in
set_option maxRecDepth 100000 in
theorem CR_b_ok (c0 : ByteArray) (m0 : Int) (W : World) (m : Nat) (hm0 : m0 = m) (h : m ≤ 12) (hc : (headB c0 40).size = 32) (hK : KeysAt W) :
    Calls Tryd.prog 11 #[.string c0, .int .i64 m0] W fun e W' => e = .returned (.bool true) ∧ Below W.heap.size W W' := by
  have HC1 := Lib.hid (cut10 c0)
  generalize headB c0 40 = c at *
  subst hm0
  have g1 : ¬ ((m : Int) > 12) := by omega
  have HO := Own.start W
  have HAl := Lib.hid (fun w1 (hg : Gr W w1) => alive10 w1 (hK.up hg))
  have HR := Lib.hid (fun w1 (hg : Gr W w1) => Run_ok c m hc (by omega) w1 (hK.up hg))
  have HRR := Lib.hid (fun A1 c1 A2 c2 w1 (hk : KAt w1 A1 c1 A2 c2) => RRun_any A1 c1 A2 c2 c m w1 hk hc (by omega))
  have e1 : ((c.size : Int) != 32) = false := by rw [hc]; rfl
  have e2 : ¬ ((m : Int) < 0) := by omega
  have e3 : ¬ ((m : Int) > 64) := by omega
  have hkl : (keysL c m).length ≤ 64 := by rw [keysL_len]; omega
  unfold kV at HRR
  clear hK hc h
  generalize chF c m = x at *
  generalize keysL c m = ks at *
  have ex : (x.toList == x.toList) = true := by simp
  go_enter Tryd.func11, Tryd.ntmps11
  go_wp2_with fail
  refine (HC1.out _).mono ?_
  rintro e w3 ⟨rfl, hb⟩
  replace HO := HO.up hb
  clear hb
  go_wp2_with fail
  refine (HR.out _ HO.below).mono ?_
  rintro e w4 ⟨⟨v, rfl, A, cp, rfl, hl, hcp, hC⟩, hb⟩
  replace HO := HO.up hb
  have HCC := Lib.hid hC
  clear hb hC HR
  go_wp2_with fail
  refine (Numbers_any _).mono ?_
  rintro e w5 ⟨⟨A1, c1, A2, c2, rfl, hk⟩, hb⟩
  replace HO := HO.up hb
  replace HCC := Lib.hid (Kd.C_below HCC.out hb)
  have HKK := Lib.hid hk
  clear hb hk
  unfold kV
  go_wp2_with fail
  refine (HRR.out _ _ _ _ _ HKK.out).mono ?_
  rintro e w6 ⟨⟨v, rfl, B, bp, rfl, hl2, hcp2, hC2⟩, hb⟩
  replace HO := HO.up hb
  replace HCC := Lib.hid (Kd.C_below (Kd.C_below HCC.out hb) (below_alloc (Below.refl _ _) (.cells #[.string x, .slice B ks.length bp] 72)))
  have HC2 := Lib.hid (Kd.C_below hC2 (below_alloc (Below.refl _ _) (.cells #[.string x, .slice B ks.length bp] 72)))
  replace HO := HO.alloc' (.cells #[.string x, .slice B ks.length bp] 72) rfl
  clear hb hC2 HRR HKK
  go_wp2_with fail
  generalize hbx : w6.heap.size = bx at *
  generalize World.alloc w6 _ = w7 at *
  clear hbx
  refine (HAl.out _ HO.below).mono ?_
  rintro e w8 ⟨rfl, hb⟩
  replace HO := HO.up hb
  replace HCC := Lib.hid (Kd.C_below HCC.out hb)
  replace HC2 := Lib.hid (Kd.C_below HC2.out hb)
  clear hb
  have cc := HO.cell 0 rfl
  go_wp2_with fail
  have hT := Texts_any A B cp bp ks.length ks.length ks ks w8 HCC.out HC2.out (by omega)
  rw [decide_eq_true rfl] at hT
  refine hT.mono ?_
  rintro e w9 ⟨rfl, hb⟩
  replace HO := HO.up hb
  clear hb hT cc
  go_wp2
  go_ret
  exact ⟨rfl, HO.below⟩
set_option maxHeartbeats 8000000 in
set_option maxRecDepth 100000 in
theorem CR_a_ok (c0 : ByteArray) (m0 : Int) (W : World) (h : 12 < m0 ∧ m0 ≤ 64) (hc : (headB c0 40).size = 32) (hK : KeysAt W) :
    Calls Tryd.prog 11 #[.string c0, .int .i64 m0] W fun e W' => e = .returned (.bool true) ∧ Below W.heap.size W W' := by
  have HC1 := Lib.hid (cut10 c0)
  generalize headB c0 40 = c at *
  obtain ⟨m, hm⟩ : ∃ m : Nat, (m : Int) = 8 + m0 % 5 := ⟨(8 + m0 % 5).toNat, by omega⟩
  have hm1 : Int.tmod m0 5 = m0 % 5 := Int.tmod_eq_emod_of_nonneg (by omega)
  have g1 : m0 > 12 := by omega
  have g2 : m0 ≤ 64 := by omega
  have hm2 : 8 + m0 % 5 = (m : Int) := hm.symm
  have hm3 : m ≤ 12 := by omega
  have hm4 : 8 ≤ m := by omega
  have HO := Own.start W
  clear hm
  have HAl := Lib.hid (fun w1 (hg : Gr W w1) => alive10 w1 (hK.up hg))
  have HR := Lib.hid (fun w1 (hg : Gr W w1) => Run_ok c m hc (by omega) w1 (hK.up hg))
  have HRR := Lib.hid (fun A1 c1 A2 c2 w1 (hk : KAt w1 A1 c1 A2 c2) => RRun_any A1 c1 A2 c2 c m w1 hk hc (by omega))
  have e1 : ((c.size : Int) != 32) = false := by rw [hc]; rfl
  have e2 : ¬ ((m : Int) < 0) := by omega
  have e3 : ¬ ((m : Int) > 64) := by omega
  have hkl : (keysL c m).length ≤ 64 := by rw [keysL_len]; omega
  unfold kV at HRR
  clear hK hc h
  generalize chF c m = x at *
  generalize keysL c m = ks at *
  have ex : (x.toList == x.toList) = true := by simp
  go_enter Tryd.func11, Tryd.ntmps11
  go_wp2_with fail
  refine (HC1.out _).mono ?_
  rintro e w3 ⟨rfl, hb⟩
  replace HO := HO.up hb
  clear hb
  go_wp2_with fail
  refine (HR.out _ HO.below).mono ?_
  rintro e w4 ⟨⟨v, rfl, A, cp, rfl, hl, hcp, hC⟩, hb⟩
  replace HO := HO.up hb
  have HCC := Lib.hid hC
  clear hb hC HR
  go_wp2_with fail
  refine (Numbers_any _).mono ?_
  rintro e w5 ⟨⟨A1, c1, A2, c2, rfl, hk⟩, hb⟩
  replace HO := HO.up hb
  replace HCC := Lib.hid (Kd.C_below HCC.out hb)
  have HKK := Lib.hid hk
  clear hb hk
  unfold kV
  go_wp2_with fail
  refine (HRR.out _ _ _ _ _ HKK.out).mono ?_
  rintro e w6 ⟨⟨v, rfl, B, bp, rfl, hl2, hcp2, hC2⟩, hb⟩
  replace HO := HO.up hb
  replace HCC := Lib.hid (Kd.C_below (Kd.C_below HCC.out hb) (below_alloc (Below.refl _ _) (.cells #[.string x, .slice B ks.length bp] 72)))
  have HC2 := Lib.hid (Kd.C_below hC2 (below_alloc (Below.refl _ _) (.cells #[.string x, .slice B ks.length bp] 72)))
  replace HO := HO.alloc' (.cells #[.string x, .slice B ks.length bp] 72) rfl
  clear hb hC2 HRR HKK
  go_wp2_with fail
  generalize hbx : w6.heap.size = bx at *
  generalize World.alloc w6 _ = w7 at *
  clear hbx
  refine (HAl.out _ HO.below).mono ?_
  rintro e w8 ⟨rfl, hb⟩
  replace HO := HO.up hb
  replace HCC := Lib.hid (Kd.C_below HCC.out hb)
  replace HC2 := Lib.hid (Kd.C_below HC2.out hb)
  clear hb
  have cc := HO.cell 0 rfl
  go_wp2_with fail
  have hT := Texts_any A B cp bp ks.length ks.length ks ks w8 HCC.out HC2.out (by omega)
  rw [decide_eq_true rfl] at hT
  refine hT.mono ?_
  rintro e w9 ⟨rfl, hb⟩
  replace HO := HO.up hb
  clear hb hT cc
  go_wp2
  go_ret
  exact ⟨rfl, HO.below⟩
theorem ChainRuns_walk (c0 : ByteArray) (m0 : Int) (W : World) (hK : KeysAt W) :
    Calls Tryd.prog 11 #[.string c0, .int .i64 m0] W fun e W' => e = .returned (.bool true) ∧ Below W.heap.size W W' := by
  by_cases hc : (headB c0 40).size = 32
  · by_cases h : 12 < m0 ∧ m0 ≤ 64
    · exact CR_a_ok c0 m0 W h hc hK
    · by_cases h1 : m0 < 0
      · exact CR_b_no3 c0 m0 W h1 hc hK
      · by_cases h2 : 64 < m0
        · exact CR_b_no4 c0 m0 W h2 hc hK
        · exact CR_b_ok c0 m0 W m0.toNat (by omega) (by omega) hc hK
  · by_cases h : 12 < m0 ∧ m0 ≤ 64
    · exact CR_a_no c0 m0 W h hc hK
    · by_cases h2 : 64 < m0
      · exact CR_b_no2 c0 m0 W h2 hc hK
      · exact CR_b_no1 c0 m0 W (by omega) hc hK
end Go.Proofs.YtpafocjmheemjaaDoor

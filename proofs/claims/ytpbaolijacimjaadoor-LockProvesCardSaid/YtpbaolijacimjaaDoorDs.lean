import Derived.RangeFuncNested
import Derived.RangeFuncLeaves
import Derived.RangeFuncCalls
import Derived.Test.YtpbaolijacimjaaDoorDb
import Derived.Test.YtpbaolijacimjaaDoorDa
import Derived.Test.YtpbaolijacimjaaDoorDe
/- A RANGE OVER AN ITERATOR WITHOUT AN END, which keeps a box of its own between rounds: the loop's body ends it. -/
namespace Go.Proofs.YtpbaolijacimjaaDoor
open Go.RowKit
/-- What lay lies as it lay, but for the blocks of x. -/
structure Save (x : Nat → Prop) (W W' : World) : Prop where
  os : W'.os = W.os
  tape : W'.tape = W.tape
  output : W'.output = W.output
  size : W.heap.size ≤ W'.heap.size
  block : ∀ k, k < W.heap.size → ¬ x k → W'.heap[k]? = W.heap[k]?
theorem Save.refl (x : Nat → Prop) (W : World) : Save x W W := ⟨rfl, rfl, rfl, Nat.le_refl _, fun _ _ _ => rfl⟩
theorem Save.trans {x : Nat → Prop} {A B C : World} (h : Save x A B) (k : Save x B C) : Save x A C :=
  ⟨k.os.trans h.os, k.tape.trans h.tape, k.output.trans h.output, Nat.le_trans h.size k.size, fun i hi hx => (k.block i (Nat.lt_of_lt_of_le hi h.size) hx).trans (h.block i hi hx)⟩
theorem Save.of_below {x : Nat → Prop} {A B : World} (h : Below A.heap.size A B) : Save x A B := ⟨h.os, h.tape, h.output, h.size, fun k hk _ => h.block k hk⟩
theorem Save.putObj {x : Nat → Prop} (W : World) {l : Nat} (o : Obj) (hx : x l) : Save x W (W.putObj l o) := by
  refine ⟨rfl, rfl, rfl, by simp [World.putObj], fun k hk hn => ?_⟩
  exact World.putObj_heap_other (fun e => hn (e ▸ hx))
theorem Save.setCell {x : Nat → Prop} (W : World) {l j : Nat} (v : Value) (hx : x l) : Save x W (W.setCell ⟨l, j, none⟩ v) :=
  ⟨rfl, rfl, rfl, by simp [World.setCell], fun k _ hn => Below.heap_setCell W _ v k (fun e => hn (e ▸ hx))⟩
/-- How a round of such a loop ends. -/
def endlessPost (ks : Nat → Prop) (I Ix : Nat → World → Prop) (id : Nat) (i : Nat) (W : World) : Exit → Act → World → Prop
  | .normal, _, W' => (∀ k, ks k → W'.heap[k]? = W.heap[k]?) ∧ I (i + 1) W'
  | .exit j, _, W' => j = id ∧ (∀ k, ks k → W'.heap[k]? = W.heap[k]?) ∧ Ix (i + 1) W'
  | _, _, _ => False
/-- The iterator's contract: for whatever the loop does between two rounds. -/
def EndlessAt (F : Fence) (n : Nat) (P : Program) (gf : Nat) (lb : Array Value) (encs : Nat → Array Value) (b N : Nat) (Kp : World → Prop) (W0 : World) : Prop :=
  ∀ (l : Nat) (Y Yx : Nat → World → Prop) (W : World), (∀ i A B, Y i A → Save (· = b) A B → Y i B) → (∀ i A, Y i A → i < N ∧ Kp A) →
    (∀ i A, Y i A → YieldAt F (n - 1) P l (encs i) A fun e B =>
      (e = .returned (.bool true) ∧ Y (i + 1) B ∧ B.heap[b]? = A.heap[b]?) ∨ (e = .returned (.bool false) ∧ Yx (i + 1) B)) →
    Y 0 W → W0.heap.size ≤ W.heap.size → W.heap[b]? = W0.heap[b]? →
    CallsIn F n P gf (#[.func (.yield l) #[] #[]] ++ lb) W fun e B => (∃ v, e = .returned v) ∧ ∃ i, Yx i B
theorem range_endless {F : Fence} {n : Nat} {P : Program} {g : Operand} {ps : Array Tmp} {assign body : Code} {Q : Exit → Act → World → Prop} {a : Act} {w : World}
    (hro : F.round = none) (h1 : 1 ≤ n) {gf : Nat} {lb : Array Value} (hg : a.eval g = .func (.func gf) #[] lb) (hFg : F.fn gf) (eg : ∀ args w, (callFunc gf args).run P w = .ok (.enter gf args) w)
    {encs : Nat → Array Value} {b N : Nat} {Kp : World → Prop} (hb : b < w.heap.size) (hseq : EndlessAt F (n - 1) P gf lb encs b N Kp w) (hps : ∀ i, (encs i).size = ps.size)
    (I Ix : Nat → World → Prop) (hI : ∀ i A B, I i A → Save (fun k => k = b ∨ k = w.heap.size ∨ k = w.heap.size + 1) A B → I i B) (hIx : ∀ i A B, Ix i A → Save (fun k => k = w.heap.size ∨ k = w.heap.size + 1) A B → Ix i B)
    (hN : ∀ i A, I i A → i < N ∧ Kp A) (h0 : I 0 w) (a₁ : Nat → Act) (id : Nat)
    (hassign : ∀ (l i : Nat) (W : World) (K : Act → World → Prop), K (a₁ i) W →
      assign.wpIn (F.inRound l) (n - 1 - 1) P (Exit.then K (fun _ _ _ => False)) { tmps := (ps.zip (encs i)).foldl (fun t (p, v) => t.setIfInBounds p v) a.tmps, defers := [] } W)
    (hbody : ∀ (i : Nat) (W : World), I i W → w.heap.size + 1 < W.heap.size → body.wpIn (F.inRound (w.heap.size + 1)) (n - 1 - 1) P (endlessPost (fun k => k = b ∨ k = w.heap.size ∨ k = w.heap.size + 1) I Ix id i W) (a₁ i) W)
    (hstop : ∀ (i : Nat) (W : World), Ix i W → W.heap[w.heap.size]? = some (.deferred (some [])) → (Code.exit id).wpIn F n P Q { a with defers := { target := .collected w.heap.size, args := #[] } :: a.defers } W) :
    (Code.rangeFunc g ps assign body).wpIn F n P Q a w := by
  refine wpIn_rangeFunc fun fn hfn => ?_
  rw [hro]
  have hrec : ∃ r : LoopState → Option Code → Loop, r = fun st pe => { state := st, pending := pe, fn, tmps := a.tmps, params := ps, assign, body, defers := w.heap.size } := ⟨_, rfl⟩
  obtain ⟨r, hr⟩ := hrec
  generalize hD : w.heap.size = D at *
  have hWE : ∃ W1, (w.alloc (.deferred (some []))).alloc (.loop (r .ready none)) = W1 := ⟨_, rfl⟩
  obtain ⟨W1, hW1⟩ := hWE
  have hS : Save (fun k => k = b ∨ k = D ∨ k = D + 1) w W1 := by
    rw [← hW1]
    have e := ((Below.refl w.heap.size w).alloc (Nat.le_refl _) (.deferred (some []))).alloc (by simp) (.loop (r .ready none))
    exact Save.of_below e
  have hW1s : w.heap.size ≤ W1.heap.size := hS.size
  have hl1 : W1.heap[D + 1]? = some (.loop (r .ready none)) := by
    rw [← hW1, ← hD]
    have := World.alloc_heap_new (w.alloc (.deferred (some []))) (.loop (r .ready none))
    rwa [World.size_alloc] at this
  have hd1 : W1.heap[D]? = some (.deferred (some [])) := by
    rw [← hW1, ← hD]
    exact (Below.heap_alloc _ _ _ (by simp)).trans (World.alloc_heap_new w _)
  have hb1 : W1.heap[b]? = w.heap[b]? := by
    rw [← hW1]
    exact (Below.heap_alloc _ _ _ (by simp; omega)).trans (Below.heap_alloc _ _ _ (by omega))
  refine ⟨D + 1, [{ target := .collected D, args := #[] }], W1, { target := .fn (.func gf) lb, args := #[.func (.yield (D + 1)) #[] #[]] }, W1, gf, #[.func (.yield (D + 1)) #[] #[]] ++ lb, W1, ?_, ?_, ?_, ?_, fun _ => h1, ?_⟩
  · rw [← hW1, hr, ← hD]
    exact run_enterLoop_outer _ _ _ _ _
  · simp only [resolve, hg]
    simp [go_sem]
  · intro f' hf'
    simp [Target.leads] at hf'
    subst hf'
    exact hFg
  · simp [invoke, go_sem, eg]
  refine (hseq (D + 1) (fun i W => I i W ∧ W.heap[D + 1]? = some (.loop (r .ready none)) ∧ W.heap[D]? = some (.deferred (some [])))
    (fun i W => Ix i W ∧ W.heap[D + 1]? = some (.loop (r .done (some (.exit id)))) ∧ W.heap[D]? = some (.deferred (some []))) W1 ?_ (fun i A h => hN i A h.1) ?_ ⟨hI _ _ _ h0 hS, hl1, hd1⟩ hW1s hb1).mono ?_
  · rintro i A B ⟨h, hl, hd⟩ hs
    have hlt := (Array.getElem?_eq_some_iff.1 hl).1
    exact ⟨hI i A B h ⟨hs.os, hs.tape, hs.output, hs.size, fun k hk hn => hs.block k hk (fun e => hn (.inl e))⟩, (hs.block _ hlt (by omega)).trans hl, (hs.block _ (by omega) (by omega)).trans hd⟩
  · rintro i A ⟨hi, hl, hd⟩
    have hlt := (Array.getElem?_eq_some_iff.1 hl).1
    have hy := run_yield (P := P) (args := encs i) hl (by rw [hr]; exact hps i)
    rw [hr] at hy
    refine ⟨fn, _, assign, body, hy, roundIn_of_wpIn hfn (hassign _ i A _ ⟨_, run_beginRound hl (by rw [hr]), ?_⟩)⟩
    have hA2 : ∃ A2, A.putObj (D + 1) (.loop { r .ready none with state := .busy }) = A2 := ⟨_, rfl⟩
    obtain ⟨A2, hA2⟩ := hA2
    rw [hA2]
    have hl2 : A2.heap[D + 1]? = some (.loop { r .ready none with state := .busy }) := by rw [← hA2]; exact World.putObj_heap_same hlt
    have hd2 : A2.heap[D]? = some (.deferred (some [])) := by rw [← hA2]; exact (World.putObj_heap_other (by omega)).trans hd
    have hb2 : A2.heap[b]? = A.heap[b]? := by rw [← hA2]; exact World.putObj_heap_other (by omega)
    have hi2 : I i A2 := by rw [← hA2]; exact hI _ _ _ hi (Save.putObj A _ (.inr (.inr rfl)))
    refine wpIn_mono (hbody i A2 hi2 (Array.getElem?_eq_some_iff.1 hl2).1) ?_
    rintro e a3 W3 hp
    cases e with
    | normal =>
      obtain ⟨hk, hi3⟩ := hp
      have hl3 := (hk _ (.inr (.inr rfl))).trans hl2
      have hlt3 := (Array.getElem?_eq_some_iff.1 hl3).1
      refine ⟨_, _, run_endRound none hl3, .inl ⟨rfl, ⟨hI _ _ _ hi3 (Save.putObj W3 _ (.inr (.inr rfl))), ?_, ?_⟩, ?_⟩⟩
      · rw [World.putObj_heap_same hlt3, hr]; rfl
      · exact (World.putObj_heap_other (by omega)).trans ((hk _ (.inr (.inl rfl))).trans hd2)
      · exact (World.putObj_heap_other (by omega)).trans ((hk _ (.inl rfl)).trans hb2)
    | exit j =>
      obtain ⟨rfl, hk, hi3⟩ := hp
      have hl3 := (hk _ (.inr (.inr rfl))).trans hl2
      have hlt3 := (Array.getElem?_eq_some_iff.1 hl3).1
      refine ⟨_, _, run_endRound (some (.exit j)) hl3, .inr ⟨rfl, hIx _ _ _ hi3 (Save.putObj W3 _ (.inr rfl)), ?_, ?_⟩⟩
      · rw [World.putObj_heap_same hlt3, hr]; rfl
      · exact (World.putObj_heap_other (by omega)).trans ((hk _ (.inr (.inl rfl))).trans hd2)
    | ret => exact hp.elim
    | goto t => exact hp.elim
    | panic c => exact hp.elim
    | outgrown => exact hp.elim
  · rintro e W2 ⟨⟨v, rfl⟩, i, hi, hl, hd⟩
    have e := run_endLoop (P := P) hl (by rw [hr]; simp)
    have e2 : (r .done (some (.exit id))).pending = some (.exit id) := by rw [hr]
    rw [e2] at e
    exact ⟨some (.exit id), _, e, hstop i _ (hIx _ _ _ hi (Save.putObj W2 _ (.inr rfl))) ((World.putObj_heap_other (by omega)).trans hd)⟩
end Go.Proofs.YtpbaolijacimjaaDoor

set_option linter.unusedSimpArgs false
/- LAYER 5: the words of ChaCha20. -/
namespace Go.Proofs.YtpbaolijacimjaaDoor
open Go.RowKit Go.Proofs.YtpbaolijacimjaaDoorW.PrintWords
def rol (x : W32) (n : Nat) : W32 := x <<< n ||| x >>> (32 - n)
/-- two lines of a quarter round -/
def qr1 (n m : Nat) (q : W32 × W32 × W32 × W32) : W32 × W32 × W32 × W32 :=
  let a := q.1 + q.2.1
  let d := rol (q.2.2.2 ^^^ a) n
  let c := q.2.2.1 + d
  let b := rol (q.2.1 ^^^ c) m
  (a, b, c, d)
def qr (q : W32 × W32 × W32 × W32) : W32 × W32 × W32 × W32 := qr1 8 7 (qr1 16 12 q)
theorem rotl_cnt (n : Nat) (h1 : n < 32) : bits .and .u64 (n : Int) 31 = (n : Int) := by
  have : ∀ n : Fin 32, bits .and .u64 (n.val : Int) 31 = (n.val : Int) := by decide +kernel
  exact this ⟨n, h1⟩
attribute [local irreducible] Calls
set_option maxHeartbeats 400000 in
theorem rotl_any (x : W32) (n : Nat) (h0 : 0 < n) (h1 : n < 32) (w : World) : Calls Tryd.prog 119 #[u32 x, .int .i64 (n : Int)] w fun e w' => e = .returned (u32 (rol x n)) ∧ Below w.heap.size w w' := by
  have hb := rotl_cnt n h1
  have h4 : ¬ ((n : Int) < 0) := by omega
  have h5 : (32 : Int) - (n : Int) = ((32 - n : Nat) : Int) := by omega
  have h6 : ¬ (((32 - n : Nat) : Int) < 0) := by omega
  go_enter Tryd.func119, Tryd.ntmps119
  go_wp2
  go_ret
  refine ⟨?_, Below.refl _ _⟩
  rw [un_shl, un_shr, un_or, rol]; rfl
attribute [local go_sem] un_or un_xor un_and un_add un_addw
set_option maxHeartbeats 2000000 in
set_option maxRecDepth 100000 in
theorem Quarter_any (a b c d : W32) (w : World) : Calls Tryd.prog 114 #[u32 a, u32 b, u32 c, u32 d] w fun e w' =>
    e = .returned (.tuple #[u32 (qr (a, b, c, d)).1, u32 (qr (a, b, c, d)).2.1, u32 (qr (a, b, c, d)).2.2.1, u32 (qr (a, b, c, d)).2.2.2]) ∧ Below w.heap.size w w' := by
  have i0 : ∀ w, (Instr.index 169 (.agg #[.int .i64 16, .int .i64 12, .int .i64 8, .int .i64 7]) (.int .i64 0)).run Tryd.prog w = .ok (.agg #[.int .i64 16, .int .i64 12]) w := fun _ => by kernel_rfl
  have i1 : ∀ w, (Instr.index 169 (.agg #[.int .i64 16, .int .i64 12, .int .i64 8, .int .i64 7]) (.int .i64 1)).run Tryd.prog w = .ok (.agg #[.int .i64 8, .int .i64 7]) w := fun _ => by kernel_rfl
  go_enter Tryd.func114, Tryd.ntmps114
  go_wp2_with fail
  have R16 := Lib.hid (show ∀ x w, Calls Tryd.prog 119 #[u32 x, .int .i64 16] w fun e w' => e = .returned (u32 (rol x 16)) ∧ Below w.heap.size w w' from fun x w => rotl_any x 16 (by decide) (by decide) w)
  have R12 := Lib.hid (show ∀ x w, Calls Tryd.prog 119 #[u32 x, .int .i64 12] w fun e w' => e = .returned (u32 (rol x 12)) ∧ Below w.heap.size w w' from fun x w => rotl_any x 12 (by decide) (by decide) w)
  have R8 := Lib.hid (show ∀ x w, Calls Tryd.prog 119 #[u32 x, .int .i64 8] w fun e w' => e = .returned (u32 (rol x 8)) ∧ Below w.heap.size w w' from fun x w => rotl_any x 8 (by decide) (by decide) w)
  have R7 := Lib.hid (show ∀ x w, Calls Tryd.prog 119 #[u32 x, .int .i64 7] w fun e w' => e = .returned (u32 (rol x 7)) ∧ Below w.heap.size w w' from fun x w => rotl_any x 7 (by decide) (by decide) w)
  go_loopw [0, 1, 2, 3, 17] (fun c0 c1 c2 c3 c17 wr => ∃ (k : Nat) (q : W32 × W32 × W32 × W32), c0 = u32 q.1 ∧ c1 = u32 q.2.1 ∧ c2 = u32 q.2.2.1 ∧ c3 = u32 q.2.2.2 ∧ c17 = .int .i64 (k : Int) ∧ Aside0 (Below w.heap.size w wr) ∧ Aside0 ((k = 0 ∧ q = (a, b, c, d)) ∨ (k = 1 ∧ q = qr1 16 12 (a, b, c, d)) ∨ (k = 2 ∧ q = qr (a, b, c, d)))) (fun _ _ _ _ c17 _ => 2 - (intOf c17).toNat)
  case atStart => exact ⟨0, (a, b, c, d), rfl, rfl, rfl, rfl, rfl, ⟨Below.refl _ _⟩, ⟨.inl ⟨rfl, rfl⟩⟩⟩
  case round =>
    obtain ⟨k, ⟨a', b', c', d'⟩, rfl, rfl, rfl, rfl, rfl, HB, Hq⟩ := hrel
    rcases Hq.out with ⟨rfl, hq⟩ | ⟨rfl, hq⟩ | ⟨rfl, hq⟩
    · have HQ := Lib.hid hq
      have HO := (show Own w [] wr from ⟨HB.out, by simp, by simp⟩).alloc' (.cells #[.int .i64 16, .int .i64 12] 168) rfl
      clear hq Hq HB
      go_wp2_with fail
      refine (R16.out _ _).mono ?_
      rintro e w1 ⟨rfl, hb⟩
      replace HO := HO.up hb
      have c1 := HO.cell 0 rfl
      clear hb
      go_wp2_with fail
      refine (R12.out _ _).mono ?_
      rintro e w2 ⟨rfl, hb⟩
      replace HO := HO.up hb
      clear hb c1
      go_wp2
      have HB := Aside0.mk HO.below
      clear HO
      go_roundw
      case rel => exact ⟨1, qr1 16 12 (a', b', c', d'), rfl, rfl, rfl, rfl, rfl, HB, ⟨.inr (.inl ⟨rfl, by rw [HQ.out]⟩)⟩⟩
      case measure => simp [intOf]
    · have HQ := Lib.hid hq
      have HO := (show Own w [] wr from ⟨HB.out, by simp, by simp⟩).alloc' (.cells #[.int .i64 8, .int .i64 7] 168) rfl
      clear hq Hq HB
      go_wp2_with fail
      refine (R8.out _ _).mono ?_
      rintro e w1 ⟨rfl, hb⟩
      replace HO := HO.up hb
      have c1 := HO.cell 0 rfl
      clear hb
      go_wp2_with fail
      refine (R7.out _ _).mono ?_
      rintro e w2 ⟨rfl, hb⟩
      replace HO := HO.up hb
      clear hb c1
      go_wp2
      have HB := Aside0.mk HO.below
      clear HO
      go_roundw
      case rel => exact ⟨2, qr1 8 7 (a', b', c', d'), rfl, rfl, rfl, rfl, rfl, HB, ⟨.inr (.inr ⟨rfl, by rw [HQ.out]; rfl⟩)⟩⟩
      case measure => simp [intOf]
    · have HQ := Lib.hid hq
      clear hq Hq
      go_wp2
      exact bodyPost_ret (v := .tuple #[YtpbaolijacimjaaDoor.u32 a', YtpbaolijacimjaaDoor.u32 b', YtpbaolijacimjaaDoor.u32 c', YtpbaolijacimjaaDoor.u32 d']) (by simp [results, Tryd.results114, go_sem]) rfl ⟨by rw [← HQ.out], HB.out⟩
end Go.Proofs.YtpbaolijacimjaaDoor

set_option linter.unusedSimpArgs false
/- LAYER 5: four words of a block mixed, and words loaded. -/
namespace Go.Proofs.YtpbaolijacimjaaDoor
open Go.RowKit Go.Proofs.YtpbaolijacimjaaDoorW.PrintWords
/-- four words mixed -/
def cmx (w : Nat → W32) (a b c d : Nat) : Nat → W32 :=
  upd (upd (upd (upd w a (qr (w a, w b, w c, w d)).1) b (qr (w a, w b, w c, w d)).2.1) c (qr (w a, w b, w c, w d)).2.2.1) d (qr (w a, w b, w c, w d)).2.2.2
def colF (w : Nat → W32) : Nat → (Nat → W32)
  | 0 => w
  | i + 1 => cmx (colF w i) i (4 + i) (8 + i) (12 + i)
def diaF (w : Nat → W32) : Nat → (Nat → W32)
  | 0 => w
  | i + 1 => cmx (diaF w i) i (4 + (i + 1) % 4) (8 + (i + 2) % 4) (12 + (i + 3) % 4)
def rdsF (w : Nat → W32) : Nat → (Nat → W32)
  | 0 => w
  | t + 1 => diaF (colF (rdsF w t) 4) 4
/-- a text's words, byte by byte, laid over others from at_ on -/
def ldP (w : Nat → W32) (at_ : Nat) (s : ByteArray) : Nat → (Nat → W32)
  | 0 => w
  | i + 1 => upd (ldP w at_ s i) (at_ + i / 4) (ldP w at_ s i (at_ + i / 4) ||| byW (s.data.getD i 0) <<< (8 * (i % 4)))
def zeroF : Nat → W32 := fun j => if j = 0 then 1634760805#32 else if j = 1 then 857760878#32 else if j = 2 then 2036477234#32 else if j = 3 then 1797285236#32 else 0#32
def fstF (key : ByteArray) (n : W32) (nonce : ByteArray) : Nat → W32 := ldP (upd (ldP zeroF 4 key key.size) 12 n) 13 nonce nonce.size
theorem block_set {w : World} {g : Nat} {cs : Array Value} {t : TypeId} {fr : Nat × Nat} (h : w.heap[g]? = some (.cells cs t fr)) (j : Nat) (v : Value) : (w.setCell ⟨g, j, none⟩ v).heap[g]? = some (.cells (cs.setIfInBounds j v) t fr) := by
  simp [World.setCell, Array.getElem?_modify, h]
theorem blk_frozen {w : World} {g : Nat} {cs : Array Value} {t : TypeId} (h : w.heap[g]? = some (.cells cs t (0, 0))) (j : Nat) : w.frozen? ⟨g, j, none⟩ = false := by simp [World.frozen?, h]
attribute [local irreducible] Calls
attribute [local go_sem] un_or un_xor un_and un_add un_addw un_byw un_shl
set_option maxHeartbeats 4000000 in
set_option maxRecDepth 100000 in
theorem mix_any (g : Nat) (f : Nat → W32) (a b c d : Nat) (ha : a < 16) (hb : b < 16) (hc : c < 16) (hd : d < 16) (w : World) (h : w.heap[g]? = some (.cells (arr16 f) 141 (0, 0))) :
    Calls Tryd.prog 102 #[.pointer (some ⟨g, 0, none⟩), .int .i64 (a : Int), .int .i64 (b : Int), .int .i64 (c : Int), .int .i64 (d : Int)] w fun e w' => (∃ v, e = .returned v) ∧ w'.heap[g]? = some (.cells (arr16 (cmx f a b c d)) 141 (0, 0)) ∧ Save (· = g) w w' := by
  have hlt := (Array.getElem?_eq_some_iff.1 h).1
  have i0 : (0 : Int) ≤ (a : Int) := by omega
  have i1 : (a : Int) < 16 := by omega
  have j0 : (0 : Int) ≤ (b : Int) := by omega
  have j1 : (b : Int) < 16 := by omega
  have k0 : (0 : Int) ≤ (c : Int) := by omega
  have k1 : (c : Int) < 16 := by omega
  have l0 : (0 : Int) ≤ (d : Int) := by omega
  have l1 : (d : Int) < 16 := by omega
  have hS0 := Save.refl (· = g) w
  unfold cmx
  generalize hq : qr (f a, f b, f c, f d) = q at *
  have HQ := Lib.hid hq
  clear hq
  go_enter Tryd.func102, Tryd.ntmps102
  go_wp2_with fail
  refine bstart (fun _ => 0) (n := 46) (ds := [36, 39, 42, 45]) #[false, false, false, false, false, false, false, false, false, false, false, false, false, false, false, false, false, false, false, false, false, false, false, false, false, false, false, false, false, false, false, false, false, false, false, false, false, false, false, false, false, false, false, false, false, false] (by kernel_rfl) rfl rfl (Nat.zero_le _) (fun HBS => ?_)
  refine bseq (m := 7) (.inl rfl) [(0, true, some 11), (1, true, some 12), (2, true, some 13), (3, true, some 14), (4, true, some 15), (5, true, some 16), (6, true, some 17), (7, true, some 18), (8, true, some 19), (9, true, some 20), (10, true, some 21), (11, true, some 22), (13, true, some 24), (14, true, some 25), (15, true, some 26), (16, true, some 27), (18, true, some 29), (19, true, some 30), (20, true, some 31), (21, true, some 32), (23, true, some 34), (24, true, some 35), (25, true, some 36), (26, true, some 37), (34, true, some 44), (37, true, some 46), (40, true, some 48), (43, true, some 50), (12, false, some 23), (17, false, some 28), (22, false, some 33), (27, false, some 38), (28, false, some 39), (29, true, some 10), (30, true, some 40), (31, true, some 41), (32, true, some 42), (33, true, some 43), (35, true, some 45)] #[true, true, true, true, true, true, true, true, true, true, true, true, true, true, true, true, true, true, true, true, true, true, true, true, true, true, true, true, true, true, true, true, true, true, true, true, false, true, false, false, true, false, false, true, false, false] HBS (by kernel_rfl) rfl (fun _ _ _ _ _ h => h) ?_
  (refine sP (v := ?_) (a' := ?_) rfl rfl (by rfl) ?_ ?_ ?_; rotate_left 2; (· intro w'; go_simp; with_reducible rfl); (· simp only [Act.put, List.setIfInBounds_toArray, List.set_cons_zero, List.set_cons_succ, kw64, kw32]; rfl))
  (refine sP (v := ?_) (a' := ?_) rfl rfl (by rfl) ?_ ?_ ?_; rotate_left 2; (· intro w'; go_simp; with_reducible rfl); (· simp only [Act.put, List.setIfInBounds_toArray, List.set_cons_zero, List.set_cons_succ, kw64, kw32]; rfl))
  (refine sP (v := ?_) (a' := ?_) rfl rfl (by rfl) ?_ ?_ ?_; rotate_left 2; (· intro w'; go_simp; with_reducible rfl); (· simp only [Act.put, List.setIfInBounds_toArray, List.set_cons_zero, List.set_cons_succ, kw64, kw32]; rfl))
  (refine sP (v := ?_) (a' := ?_) rfl rfl (by rfl) ?_ ?_ ?_; rotate_left 2; (· intro w'; go_simp; with_reducible rfl); (· simp only [Act.put, List.setIfInBounds_toArray, List.set_cons_zero, List.set_cons_succ, kw64, kw32]; rfl))
  (refine sP (v := ?_) (a' := ?_) rfl rfl (by rfl) ?_ ?_ ?_; rotate_left 2; (· intro w'; go_simp; with_reducible rfl); (· simp only [Act.put, List.setIfInBounds_toArray, List.set_cons_zero, List.set_cons_succ, kw64, kw32]; rfl))
  (refine sP (v := ?_) (a' := ?_) rfl rfl (by rfl) ?_ ?_ ?_; rotate_left 2; (· intro w'; go_simp; with_reducible rfl); (· simp only [Act.put, List.setIfInBounds_toArray, List.set_cons_zero, List.set_cons_succ, kw64, kw32]; rfl))
  (refine sP (v := ?_) (a' := ?_) rfl rfl (by rfl) ?_ ?_ ?_; rotate_left 2; (· intro w'; go_simp; with_reducible rfl); (· simp only [Act.put, List.setIfInBounds_toArray, List.set_cons_zero, List.set_cons_succ, kw64, kw32]; rfl))
  (refine sP (v := ?_) (a' := ?_) rfl rfl (by rfl) ?_ ?_ ?_; rotate_left 2; (· intro w'; go_simp; with_reducible rfl); (· simp only [Act.put, List.setIfInBounds_toArray, List.set_cons_zero, List.set_cons_succ, kw64, kw32]; rfl))
  (refine sP (v := ?_) (a' := ?_) rfl rfl (by rfl) ?_ ?_ ?_; rotate_left 2; (· intro w'; go_simp; with_reducible rfl); (· simp only [Act.put, List.setIfInBounds_toArray, List.set_cons_zero, List.set_cons_succ, kw64, kw32]; rfl))
  (refine sP (v := ?_) (a' := ?_) rfl rfl (by rfl) ?_ ?_ ?_; rotate_left 2; (· intro w'; go_simp; with_reducible rfl); (· simp only [Act.put, List.setIfInBounds_toArray, List.set_cons_zero, List.set_cons_succ, kw64, kw32]; rfl))
  (refine sP (v := ?_) (a' := ?_) rfl rfl (by rfl) ?_ ?_ ?_; rotate_left 2; (· intro w'; go_simp; with_reducible rfl); (· simp only [Act.put, List.setIfInBounds_toArray, List.set_cons_zero, List.set_cons_succ, kw64, kw32]; rfl))
  (refine sP (v := ?_) (a' := ?_) rfl rfl (by rfl) ?_ ?_ ?_; rotate_left 2; (· intro w'; go_simp; with_reducible rfl); (· simp only [Act.put, List.setIfInBounds_toArray, List.set_cons_zero, List.set_cons_succ, kw64, kw32]; rfl))
  (refine sP (v := ?_) (a' := ?_) rfl rfl (by rfl) ?_ ?_ ?_; rotate_left 2; (· intro w'; go_simp; with_reducible rfl); (· simp only [Act.put, List.setIfInBounds_toArray, List.set_cons_zero, List.set_cons_succ, kw64, kw32]; rfl))
  (refine sP (v := ?_) (a' := ?_) rfl rfl (by rfl) ?_ ?_ ?_; rotate_left 2; (· intro w'; go_simp; with_reducible rfl); (· simp only [Act.put, List.setIfInBounds_toArray, List.set_cons_zero, List.set_cons_succ, kw64, kw32]; rfl))
  (refine sP (v := ?_) (a' := ?_) rfl rfl (by rfl) ?_ ?_ ?_; rotate_left 2; (· intro w'; go_simp; with_reducible rfl); (· simp only [Act.put, List.setIfInBounds_toArray, List.set_cons_zero, List.set_cons_succ, kw64, kw32]; rfl))
  (refine sP (v := ?_) (a' := ?_) rfl rfl (by rfl) ?_ ?_ ?_; rotate_left 2; (· intro w'; go_simp; with_reducible rfl); (· simp only [Act.put, List.setIfInBounds_toArray, List.set_cons_zero, List.set_cons_succ, kw64, kw32]; rfl))
  (refine sP (v := ?_) (a' := ?_) rfl rfl (by rfl) ?_ ?_ ?_; rotate_left 2; (· intro w'; go_simp; with_reducible rfl); (· simp only [Act.put, List.setIfInBounds_toArray, List.set_cons_zero, List.set_cons_succ, kw64, kw32]; rfl))
  (refine sP (v := ?_) (a' := ?_) rfl rfl (by rfl) ?_ ?_ ?_; rotate_left 2; (· intro w'; go_simp; with_reducible rfl); (· simp only [Act.put, List.setIfInBounds_toArray, List.set_cons_zero, List.set_cons_succ, kw64, kw32]; rfl))
  (refine sP (v := ?_) (a' := ?_) rfl rfl (by rfl) ?_ ?_ ?_; rotate_left 2; (· intro w'; go_simp; with_reducible rfl); (· simp only [Act.put, List.setIfInBounds_toArray, List.set_cons_zero, List.set_cons_succ, kw64, kw32]; rfl))
  (refine sP (v := ?_) (a' := ?_) rfl rfl (by rfl) ?_ ?_ ?_; rotate_left 2; (· intro w'; go_simp; with_reducible rfl); (· simp only [Act.put, List.setIfInBounds_toArray, List.set_cons_zero, List.set_cons_succ, kw64, kw32]; rfl))
  (refine sP (v := ?_) (a' := ?_) rfl rfl (by rfl) ?_ ?_ ?_; rotate_left 2; (· intro w'; go_simp; with_reducible rfl); (· simp only [Act.put, List.setIfInBounds_toArray, List.set_cons_zero, List.set_cons_succ, kw64, kw32]; rfl))
  (refine sP (v := ?_) (a' := ?_) rfl rfl (by rfl) ?_ ?_ ?_; rotate_left 2; (· intro w'; go_simp; with_reducible rfl); (· simp only [Act.put, List.setIfInBounds_toArray, List.set_cons_zero, List.set_cons_succ, kw64, kw32]; rfl))
  (refine sP (v := ?_) (a' := ?_) rfl rfl (by rfl) ?_ ?_ ?_; rotate_left 2; (· intro w'; go_simp; with_reducible rfl); (· simp only [Act.put, List.setIfInBounds_toArray, List.set_cons_zero, List.set_cons_succ, kw64, kw32]; rfl))
  (refine sP (v := ?_) (a' := ?_) rfl rfl (by rfl) ?_ ?_ ?_; rotate_left 2; (· intro w'; go_simp; with_reducible rfl); (· simp only [Act.put, List.setIfInBounds_toArray, List.set_cons_zero, List.set_cons_succ, kw64, kw32]; rfl))
  (refine sP (v := ?_) (a' := ?_) rfl rfl (by rfl) ?_ ?_ ?_; rotate_left 2; (· intro w'; go_simp; with_reducible rfl); (· simp only [Act.put, List.setIfInBounds_toArray, List.set_cons_zero, List.set_cons_succ, kw64, kw32]; rfl))
  (refine sP (v := ?_) (a' := ?_) rfl rfl (by rfl) ?_ ?_ ?_; rotate_left 2; (· intro w'; go_simp; with_reducible rfl); (· simp only [Act.put, List.setIfInBounds_toArray, List.set_cons_zero, List.set_cons_succ, kw64, kw32]; rfl))
  (refine sP (v := ?_) (a' := ?_) rfl rfl (by rfl) ?_ ?_ ?_; rotate_left 2; (· intro w'; go_simp; with_reducible rfl); (· simp only [Act.put, List.setIfInBounds_toArray, List.set_cons_zero, List.set_cons_succ, kw64, kw32]; rfl))
  (refine sP (v := ?_) (a' := ?_) rfl rfl (by rfl) ?_ ?_ ?_; rotate_left 2; (· intro w'; go_simp; with_reducible rfl); (· simp only [Act.put, List.setIfInBounds_toArray, List.set_cons_zero, List.set_cons_succ, kw64, kw32]; rfl))
  (refine sL (v := ?_) (a' := ?_) rfl rfl (by rfl) ?_ ?_ ?_; rotate_left 2; (· intro w1 hg; have hbk := (hg.block _ hlt).trans h; have c1 := blk_cell hbk a; rw [arr16_get _ a ha] at c1; have c2 := blk_cell hbk b; rw [arr16_get _ b hb] at c2; have c3 := blk_cell hbk c; rw [arr16_get _ c hc] at c3; have c4 := blk_cell hbk d; rw [arr16_get _ d hd] at c4; go_simp; with_reducible rfl); (· simp only [Act.put, List.setIfInBounds_toArray, List.set_cons_zero, List.set_cons_succ, kw64, kw32]; rfl))
  (refine sL (v := ?_) (a' := ?_) rfl rfl (by rfl) ?_ ?_ ?_; rotate_left 2; (· intro w1 hg; have hbk := (hg.block _ hlt).trans h; have c1 := blk_cell hbk a; rw [arr16_get _ a ha] at c1; have c2 := blk_cell hbk b; rw [arr16_get _ b hb] at c2; have c3 := blk_cell hbk c; rw [arr16_get _ c hc] at c3; have c4 := blk_cell hbk d; rw [arr16_get _ d hd] at c4; go_simp; with_reducible rfl); (· simp only [Act.put, List.setIfInBounds_toArray, List.set_cons_zero, List.set_cons_succ, kw64, kw32]; rfl))
  (refine sL (v := ?_) (a' := ?_) rfl rfl (by rfl) ?_ ?_ ?_; rotate_left 2; (· intro w1 hg; have hbk := (hg.block _ hlt).trans h; have c1 := blk_cell hbk a; rw [arr16_get _ a ha] at c1; have c2 := blk_cell hbk b; rw [arr16_get _ b hb] at c2; have c3 := blk_cell hbk c; rw [arr16_get _ c hc] at c3; have c4 := blk_cell hbk d; rw [arr16_get _ d hd] at c4; go_simp; with_reducible rfl); (· simp only [Act.put, List.setIfInBounds_toArray, List.set_cons_zero, List.set_cons_succ, kw64, kw32]; rfl))
  (refine sL (v := ?_) (a' := ?_) rfl rfl (by rfl) ?_ ?_ ?_; rotate_left 2; (· intro w1 hg; have hbk := (hg.block _ hlt).trans h; have c1 := blk_cell hbk a; rw [arr16_get _ a ha] at c1; have c2 := blk_cell hbk b; rw [arr16_get _ b hb] at c2; have c3 := blk_cell hbk c; rw [arr16_get _ c hc] at c3; have c4 := blk_cell hbk d; rw [arr16_get _ d hd] at c4; go_simp; with_reducible rfl); (· simp only [Act.put, List.setIfInBounds_toArray, List.set_cons_zero, List.set_cons_succ, kw64, kw32]; rfl))
  (refine sC (v := ?_) (a' := ?_) Tryd.func114 rfl rfl (by rfl) rfl (by kernel_rfl) rfl (by rfl) ?_ ?_ ?_; rotate_left 2; (· intro w1 hg; have hqa := Quarter_any (f a) (f b) (f c) (f d) w1; rw [HQ.out] at hqa; exact hqa); (· simp only [Act.put, List.setIfInBounds_toArray, List.set_cons_zero, List.set_cons_succ, kw64, kw32]; rfl))
  (refine sP (v := ?_) (a' := ?_) rfl rfl (by rfl) ?_ ?_ ?_; rotate_left 2; (· intro w'; go_simp; with_reducible rfl); (· simp only [Act.put, List.setIfInBounds_toArray, List.set_cons_zero, List.set_cons_succ, kw64, kw32]; rfl))
  (refine sP (v := ?_) (a' := ?_) rfl rfl (by rfl) ?_ ?_ ?_; rotate_left 2; (· intro w'; go_simp; with_reducible rfl); (· simp only [Act.put, List.setIfInBounds_toArray, List.set_cons_zero, List.set_cons_succ, kw64, kw32]; rfl))
  (refine sP (v := ?_) (a' := ?_) rfl rfl (by rfl) ?_ ?_ ?_; rotate_left 2; (· intro w'; go_simp; with_reducible rfl); (· simp only [Act.put, List.setIfInBounds_toArray, List.set_cons_zero, List.set_cons_succ, kw64, kw32]; rfl))
  (refine sP (v := ?_) (a' := ?_) rfl rfl (by rfl) ?_ ?_ ?_; rotate_left 2; (· intro w'; go_simp; with_reducible rfl); (· simp only [Act.put, List.setIfInBounds_toArray, List.set_cons_zero, List.set_cons_succ, kw64, kw32]; rfl))
  (refine sP (v := ?_) (a' := ?_) rfl rfl (by rfl) ?_ ?_ ?_; rotate_left 2; (· intro w'; go_simp; with_reducible rfl); (· simp only [Act.put, List.setIfInBounds_toArray, List.set_cons_zero, List.set_cons_succ, kw64, kw32]; rfl))
  (refine sP (v := ?_) (a' := ?_) rfl rfl (by rfl) ?_ ?_ ?_; rotate_left 2; (· intro w'; go_simp; with_reducible rfl); (· simp only [Act.put, List.setIfInBounds_toArray, List.set_cons_zero, List.set_cons_succ, kw64, kw32]; rfl))
  refine bone (i := 36) (N := none) #[true, true, true, true, true, true, true, true, true, true, true, true, true, true, true, true, true, true, true, true, true, true, true, true, true, true, true, true, true, true, true, true, true, true, true, true, true, true, false, false, true, false, false, true, false, false] rfl rfl (by kernel_rfl) HBS (fun w1 hg K hK => ?_)
  rw [if_pos (by rfl)]
  have hbk := (hg.block _ hlt).trans h
  have ck := blk_cell hbk a
  rw [arr16_get _ a ha] at ck
  have fk := blk_frozen hbk a
  go_simp
  refine hK _ _ (in_ds (by decide) (bel_set (Nat.zero_le _))) (fun HBS => ?_)
  have h2 := block_set hbk a (u32 q.1)
  rw [arr16_set f a ha] at h2
  have hS2 := (hS0.trans (Save.of_below hg)).trans (Save.setCell (x := (· = g)) w1 (l := g) (j := a) (u32 q.1) rfl)
  clear ck fk hK K hbk hg h hS0 hlt
  revert h2 hS2 HBS
  generalize World.setCell w1 _ _ = wb
  intro HBS h hS0
  have hlt := (Array.getElem?_eq_some_iff.1 h).1
  refine bseq (m := 5) (.inl rfl) [(38, true, some 47)] #[true, true, true, true, true, true, true, true, true, true, true, true, true, true, true, true, true, true, true, true, true, true, true, true, true, true, true, true, true, true, true, true, true, true, true, true, true, true, true, false, true, false, false, true, false, false] HBS (by kernel_rfl) rfl (fun _ _ _ _ _ h => h) ?_
  (refine sP (v := ?_) (a' := ?_) rfl rfl (by rfl) ?_ ?_ ?_; rotate_left 2; (· intro w'; go_simp; with_reducible rfl); (· simp only [Act.put, List.setIfInBounds_toArray, List.set_cons_zero, List.set_cons_succ, kw64, kw32]; rfl))
  refine bone (i := 39) (N := none) #[true, true, true, true, true, true, true, true, true, true, true, true, true, true, true, true, true, true, true, true, true, true, true, true, true, true, true, true, true, true, true, true, true, true, true, true, true, true, true, true, true, false, false, true, false, false] rfl rfl (by kernel_rfl) HBS (fun w1 hg K hK => ?_)
  rw [if_pos (by rfl)]
  have hbk := (hg.block _ hlt).trans h
  have ck := blk_cell hbk b
  rw [arr16_get _ b hb] at ck
  have fk := blk_frozen hbk b
  go_simp
  refine hK _ _ (in_ds (by decide) (bel_set (Nat.zero_le _))) (fun HBS => ?_)
  have h2 := block_set hbk b (u32 q.2.1)
  rw [arr16_set (upd f a q.1) b hb] at h2
  have hS2 := (hS0.trans (Save.of_below hg)).trans (Save.setCell (x := (· = g)) w1 (l := g) (j := b) (u32 q.2.1) rfl)
  clear ck fk hK K hbk hg h hS0 hlt
  revert h2 hS2 HBS
  generalize World.setCell w1 _ _ = wb
  intro HBS h hS0
  have hlt := (Array.getElem?_eq_some_iff.1 h).1
  refine bseq (m := 3) (.inl rfl) [(41, true, some 49)] #[true, true, true, true, true, true, true, true, true, true, true, true, true, true, true, true, true, true, true, true, true, true, true, true, true, true, true, true, true, true, true, true, true, true, true, true, true, true, true, true, true, true, false, true, false, false] HBS (by kernel_rfl) rfl (fun _ _ _ _ _ h => h) ?_
  (refine sP (v := ?_) (a' := ?_) rfl rfl (by rfl) ?_ ?_ ?_; rotate_left 2; (· intro w'; go_simp; with_reducible rfl); (· simp only [Act.put, List.setIfInBounds_toArray, List.set_cons_zero, List.set_cons_succ, kw64, kw32]; rfl))
  refine bone (i := 42) (N := none) #[true, true, true, true, true, true, true, true, true, true, true, true, true, true, true, true, true, true, true, true, true, true, true, true, true, true, true, true, true, true, true, true, true, true, true, true, true, true, true, true, true, true, true, true, false, false] rfl rfl (by kernel_rfl) HBS (fun w1 hg K hK => ?_)
  rw [if_pos (by rfl)]
  have hbk := (hg.block _ hlt).trans h
  have ck := blk_cell hbk c
  rw [arr16_get _ c hc] at ck
  have fk := blk_frozen hbk c
  go_simp
  refine hK _ _ (in_ds (by decide) (bel_set (Nat.zero_le _))) (fun HBS => ?_)
  have h2 := block_set hbk c (u32 q.2.2.1)
  rw [arr16_set (upd (upd f a q.1) b q.2.1) c hc] at h2
  have hS2 := (hS0.trans (Save.of_below hg)).trans (Save.setCell (x := (· = g)) w1 (l := g) (j := c) (u32 q.2.2.1) rfl)
  clear ck fk hK K hbk hg h hS0 hlt
  revert h2 hS2 HBS
  generalize World.setCell w1 _ _ = wb
  intro HBS h hS0
  have hlt := (Array.getElem?_eq_some_iff.1 h).1
  refine bseq (m := 1) (.inl rfl) [(44, true, some 51)] #[true, true, true, true, true, true, true, true, true, true, true, true, true, true, true, true, true, true, true, true, true, true, true, true, true, true, true, true, true, true, true, true, true, true, true, true, true, true, true, true, true, true, true, true, true, false] HBS (by kernel_rfl) rfl (fun _ _ _ _ _ h => h) ?_
  (refine sP (v := ?_) (a' := ?_) rfl rfl (by rfl) ?_ ?_ ?_; rotate_left 2; (· intro w'; go_simp; with_reducible rfl); (· simp only [Act.put, List.setIfInBounds_toArray, List.set_cons_zero, List.set_cons_succ, kw64, kw32]; rfl))
  refine bone (i := 45) (N := none) #[true, true, true, true, true, true, true, true, true, true, true, true, true, true, true, true, true, true, true, true, true, true, true, true, true, true, true, true, true, true, true, true, true, true, true, true, true, true, true, true, true, true, true, true, true, true] rfl rfl (by kernel_rfl) HBS (fun w1 hg K hK => ?_)
  rw [if_pos (by rfl)]
  have hbk := (hg.block _ hlt).trans h
  have ck := blk_cell hbk d
  rw [arr16_get _ d hd] at ck
  have fk := blk_frozen hbk d
  go_simp
  refine hK _ _ (in_ds (by decide) (bel_set (Nat.zero_le _))) (fun HBS => ?_)
  have h2 := block_set hbk d (u32 q.2.2.2)
  rw [arr16_set (upd (upd (upd f a q.1) b q.2.1) c q.2.2.1) d hd] at h2
  have hS2 := (hS0.trans (Save.of_below hg)).trans (Save.setCell (x := (· = g)) w1 (l := g) (j := d) (u32 q.2.2.2) rfl)
  clear ck fk hK K hbk hg h hS0 hlt
  revert h2 hS2 HBS
  generalize World.setCell w1 _ _ = wb
  intro HBS h hS0
  have hlt := (Array.getElem?_eq_some_iff.1 h).1
  refine bdone (by kernel_rfl) (fun w1 hg => ?_)
  have h9 := (hg.block _ hlt).trans h
  have hS9 := hS0.trans (Save.of_below hg)
  clear hg h hS0 hlt
  go_wp2
  go_end0
  exact ⟨⟨_, rfl⟩, h9, hS9⟩
end Go.Proofs.YtpbaolijacimjaaDoor

set_option linter.unusedSimpArgs false
/- LAYER 5: words loaded. -/
namespace Go.Proofs.YtpbaolijacimjaaDoor
open Go.RowKit Go.Proofs.YtpbaolijacimjaaDoorW.PrintWords
attribute [local irreducible] Calls
attribute [local go_sem] un_or un_xor un_and un_add un_addw un_byw un_shl
set_option maxHeartbeats 4000000 in
set_option maxRecDepth 100000 in
theorem load_any (g : Nat) (f : Nat → W32) (at_ : Nat) (s : ByteArray) (hs : at_ * 4 + s.size ≤ 64) (w : World) (h : w.heap[g]? = some (.cells (arr16 f) 141 (0, 0))) :
    Calls Tryd.prog 101 #[.pointer (some ⟨g, 0, none⟩), .int .i64 (at_ : Int), .string s] w fun e w' => (∃ v, e = .returned v) ∧ w'.heap[g]? = some (.cells (arr16 (ldP f at_ s s.size)) 141 (0, 0)) ∧ Save (· = g) w w' := by
  have h0 := Lib.hid h
  clear h
  go_enter Tryd.func101, Tryd.ntmps101
  go_wp2_with fail
  go_loopw [9] (fun c wr => ∃ k : Nat, c = .int .i64 (k : Int) ∧ Aside0 (k ≤ s.size) ∧ Aside0 (wr.heap[g]? = some (.cells (arr16 (ldP f at_ s k)) 141 (0, 0))) ∧ Aside0 (Save (· = g) w wr)) (fun c _ => s.size - (intOf c).toNat)
  case atStart => exact ⟨0, rfl, ⟨by omega⟩, ⟨h0.out⟩, ⟨Save.refl _ _⟩⟩
  case round =>
    clear h0
    obtain ⟨k, rfl, Hk, H, HS⟩ := hrel
    have h := H.out
    have hlt := (Array.getElem?_eq_some_iff.1 h).1
    by_cases hk : k < s.size
    · have i0 : (0 : Int) ≤ (k : Int) := by omega
      have i1 : (k : Int) < (s.size : Int) := by omega
      obtain ⟨q, hq, hq1, hq2, hq3⟩ : ∃ q : Nat, (k : Int) / 4 = (q : Int) ∧ q = k / 4 ∧ at_ + q < 16 ∧ Int.tdiv (k : Int) 4 = (q : Int) := ⟨k / 4, by omega, rfl, by omega, by rw [Int.tdiv_eq_ediv_of_nonneg (by omega)]; omega⟩
      obtain ⟨p, hp, hp1⟩ : ∃ p : Nat, (at_ : Int) + (q : Int) = (p : Int) ∧ p = at_ + q := ⟨at_ + q, by omega, rfl⟩
      obtain ⟨r, hr, hr1, hr2⟩ : ∃ r : Nat, (k : Int) % 4 = (r : Int) ∧ r = k % 4 ∧ Int.tmod (k : Int) 4 = (r : Int) := ⟨k % 4, by omega, rfl, by rw [Int.tmod_eq_emod_of_nonneg (by omega)]; omega⟩
      obtain ⟨m, hm, hm1⟩ : ∃ m : Nat, (8 : Int) * (r : Int) = (m : Int) ∧ m = 8 * r := ⟨8 * r, by omega, rfl⟩
      have hk1h := Lib.hid (show wrap64 ((k : Int) + 1) = (k : Int) + 1 by unfold wrap64; omega)
      have hk2 := Lib.hid (show k + 1 ≤ s.size by omega)
      have hk3 := Lib.hid (show s.size - (intOf (Value.int IntKind.i64 ((k : Int) + 1))).toNat < s.size - (intOf (Value.int IntKind.i64 (k : Int))).toNat by simp [intOf]; omega)
      have p16 : p < 16 := by omega
      have p0 : (0 : Int) ≤ (p : Int) := by omega
      have p1 : (p : Int) < 16 := by omega
      have m0 : ¬ ((m : Int) < 0) := by omega
      have wq : wrap64 (q : Int) = (q : Int) := by unfold wrap64; omega
      have wp : wrap64 (p : Int) = (p : Int) := by unfold wrap64; omega
      have wm : wrap64 (m : Int) = (m : Int) := by unfold wrap64; omega
      have m32 : m < 32 := by omega
      have m32' : (m : Int) < 32 := by omega
      have sh2 : IntKind.u32.wrap (un (byW s[k]) * 2 ^ m) = un (byW s[k] <<< m) := un_shl _ _
      have sh1 : IntKind.u32.wrap (un (byW s[k]) * 2 ^ min m 32) = un (byW s[k] <<< m) := by rw [Nat.min_eq_left (by omega)]; exact un_shl _ _
      have HSH1 := Lib.hid sh1
      have HSH2 := Lib.hid sh2
      clear sh1 sh2 m32'
      have wr4 : wrap64 (r : Int) = (r : Int) := by unfold wrap64; omega
      have hL := Lib.hid (show ldP f at_ s (k + 1) = upd (ldP f at_ s k) p (ldP f at_ s k p ||| byW s[k] <<< m) by
        show upd (ldP f at_ s k) (at_ + k / 4) (ldP f at_ s k (at_ + k / 4) ||| byW (s.data.getD k 0) <<< (8 * (k % 4))) = _
        rw [getD_at s k hk, ← hq1, ← hr1, ← hp1, ← hm1]; try rfl)
      generalize hf2 : ldP f at_ s (k + 1) = f2 at *
      have HF2 := Lib.hid hf2
      clear hf2
      generalize ldP f at_ s k = f1 at *
      have HQ1 := Lib.hid hq1
      have HP1 := Lib.hid hp1
      have HR1 := Lib.hid hr1
      have HM1 := Lib.hid hm1
      clear hq1 hp1 hr1 hm1 H
      go_wp2_with fail
      refine bstart (fun _ => 0) (n := 20) (ds := [19]) #[false, false, false, false, false, false, false, false, false, false, false, false, false, false, false, false, false, false, false, false] (by kernel_rfl) rfl rfl (Nat.zero_le _) (fun HBS => ?_)
      refine bseq (m := 1) (.inl rfl) [(0, true, some 12), (1, true, some 13), (2, true, some 14), (3, true, some 15), (4, true, some 16), (5, true, some 17), (6, true, some 18), (8, true, some 20), (9, true, some 21), (10, true, some 22), (11, true, some 23), (12, true, some 24), (13, true, some 25), (14, true, some 26), (15, true, some 27), (17, true, some 29), (7, false, some 19), (16, true, some 28), (18, true, some 30)] #[true, true, true, true, true, true, true, true, true, true, true, true, true, true, true, true, true, true, true, false] HBS (by kernel_rfl) rfl (fun _ _ _ _ _ h => h) ?_
      (refine sP (v := ?_) (a' := ?_) rfl rfl (by rfl) ?_ ?_ ?_; rotate_left 2; (· intro w'; go_simp; with_reducible rfl); (· simp only [Act.put, List.setIfInBounds_toArray, List.set_cons_zero, List.set_cons_succ, kw64, kw32]; rfl))
      (refine sP (v := ?_) (a' := ?_) rfl rfl (by rfl) ?_ ?_ ?_; rotate_left 2; (· intro w'; go_simp; with_reducible rfl); (· simp only [Act.put, List.setIfInBounds_toArray, List.set_cons_zero, List.set_cons_succ, kw64, kw32]; rfl))
      (refine sP (v := ?_) (a' := ?_) rfl rfl (by rfl) ?_ ?_ ?_; rotate_left 2; (· intro w'; go_simp; with_reducible rfl); (· simp only [Act.put, List.setIfInBounds_toArray, List.set_cons_zero, List.set_cons_succ, kw64, kw32]; rfl))
      (refine sP (v := ?_) (a' := ?_) rfl rfl (by rfl) ?_ ?_ ?_; rotate_left 2; (· intro w'; go_simp; with_reducible rfl); (· simp only [Act.put, List.setIfInBounds_toArray, List.set_cons_zero, List.set_cons_succ, kw64, kw32]; rfl))
      (refine sP (v := ?_) (a' := ?_) rfl rfl (by rfl) ?_ ?_ ?_; rotate_left 2; (· intro w'; go_simp; with_reducible rfl); (· simp only [Act.put, List.setIfInBounds_toArray, List.set_cons_zero, List.set_cons_succ, kw64, kw32]; rfl))
      (refine sP (v := ?_) (a' := ?_) rfl rfl (by rfl) ?_ ?_ ?_; rotate_left 2; (· intro w'; go_simp; with_reducible rfl); (· simp only [Act.put, List.setIfInBounds_toArray, List.set_cons_zero, List.set_cons_succ, kw64, kw32]; rfl))
      (refine sP (v := ?_) (a' := ?_) rfl rfl (by rfl) ?_ ?_ ?_; rotate_left 2; (· intro w'; go_simp; with_reducible rfl); (· simp only [Act.put, List.setIfInBounds_toArray, List.set_cons_zero, List.set_cons_succ, kw64, kw32]; rfl))
      (refine sP (v := ?_) (a' := ?_) rfl rfl (by rfl) ?_ ?_ ?_; rotate_left 2; (· intro w'; go_simp; with_reducible rfl); (· simp only [Act.put, List.setIfInBounds_toArray, List.set_cons_zero, List.set_cons_succ, kw64, kw32]; rfl))
      (refine sP (v := ?_) (a' := ?_) rfl rfl (by rfl) ?_ ?_ ?_; rotate_left 2; (· intro w'; go_simp; with_reducible rfl); (· simp only [Act.put, List.setIfInBounds_toArray, List.set_cons_zero, List.set_cons_succ, kw64, kw32]; rfl))
      (refine sP (v := ?_) (a' := ?_) rfl rfl (by rfl) ?_ ?_ ?_; rotate_left 2; (· intro w'; go_simp; with_reducible rfl); (· simp only [Act.put, List.setIfInBounds_toArray, List.set_cons_zero, List.set_cons_succ, kw64, kw32]; rfl))
      (refine sP (v := ?_) (a' := ?_) rfl rfl (by rfl) ?_ ?_ ?_; rotate_left 2; (· intro w'; go_simp; with_reducible rfl); (· simp only [Act.put, List.setIfInBounds_toArray, List.set_cons_zero, List.set_cons_succ, kw64, kw32]; rfl))
      (refine sP (v := ?_) (a' := ?_) rfl rfl (by rfl) ?_ ?_ ?_; rotate_left 2; (· intro w'; go_simp; with_reducible rfl); (· simp only [Act.put, List.setIfInBounds_toArray, List.set_cons_zero, List.set_cons_succ, kw64, kw32]; rfl))
      (refine sP (v := ?_) (a' := ?_) rfl rfl (by rfl) ?_ ?_ ?_; rotate_left 2; (· intro w'; go_simp; with_reducible rfl); (· simp only [Act.put, List.setIfInBounds_toArray, List.set_cons_zero, List.set_cons_succ, kw64, kw32]; rfl))
      (refine sP (v := ?_) (a' := ?_) rfl rfl (by rfl) ?_ ?_ ?_; rotate_left 2; (· intro w'; go_simp; with_reducible rfl); (· simp only [Act.put, List.setIfInBounds_toArray, List.set_cons_zero, List.set_cons_succ, kw64, kw32]; rfl))
      (refine sP (v := .int .u32 (un (byW s[k] <<< m))) (a' := ?_) rfl rfl (by rfl) ?_ ?_ ?_; rotate_left 1; (· intro w'; simp only [wm]; clear wq wp wm wr4; go_simp; first | exact HSH1.out | exact HSH2.out | rw [HSH1.out] | rw [HSH2.out]); (· simp only [Act.put, List.setIfInBounds_toArray, List.set_cons_zero, List.set_cons_succ, kw64, kw32]; rfl))
      (refine sP (v := ?_) (a' := ?_) rfl rfl (by rfl) ?_ ?_ ?_; rotate_left 2; (· intro w'; go_simp; with_reducible rfl); (· simp only [Act.put, List.setIfInBounds_toArray, List.set_cons_zero, List.set_cons_succ, kw64, kw32]; rfl))
      (refine sL (v := ?_) (a' := ?_) rfl rfl (by rfl) ?_ ?_ ?_; rotate_left 2; (· intro w1 hg; have hbk := (hg.block _ hlt).trans h; have c1 := blk_cell hbk p; rw [arr16_get _ p p16] at c1; go_simp; with_reducible rfl); (· simp only [Act.put, List.setIfInBounds_toArray, List.set_cons_zero, List.set_cons_succ, kw64, kw32]; rfl))
      (refine sP (v := ?_) (a' := ?_) rfl rfl (by rfl) ?_ ?_ ?_; rotate_left 2; (· intro w'; go_simp; with_reducible rfl); (· simp only [Act.put, List.setIfInBounds_toArray, List.set_cons_zero, List.set_cons_succ, kw64, kw32]; rfl))
      (refine sP (v := ?_) (a' := ?_) rfl rfl (by rfl) ?_ ?_ ?_; rotate_left 2; (· intro w'; go_simp; with_reducible rfl); (· simp only [Act.put, List.setIfInBounds_toArray, List.set_cons_zero, List.set_cons_succ, kw64, kw32]; rfl))
      refine bone (i := 19) (N := none) #[true, true, true, true, true, true, true, true, true, true, true, true, true, true, true, true, true, true, true, true] rfl rfl (by kernel_rfl) HBS (fun w1 hg K hK => ?_)
      rw [if_pos (by rfl)]
      have hbk := (hg.block _ hlt).trans h
      have ck := blk_cell hbk p
      rw [arr16_get _ p p16] at ck
      have fk := blk_frozen hbk p
      go_simp
      refine hK _ _ (in_ds (by decide) (bel_set (Nat.zero_le _))) (fun HBS => ?_)
      have h2 := (block_set hbk p (.int .u32 (un (f1 p ||| byW s[k] <<< m)))).trans (congrArg (fun c => some (Obj.cells c 141 (0, 0))) (arr16_set f1 p p16 (f1 p ||| byW s[k] <<< m)))
      have hS2 := Aside0.mk ((HS.out.trans (Save.of_below hg)).trans (Save.setCell (x := (· = g)) w1 (l := g) (j := p) (.int .u32 (un (f1 p ||| byW s[k] <<< m))) rfl))
      clear ck fk hK K hbk hg h HS hlt
      revert h2 hS2 HBS
      generalize World.setCell w1 _ _ = wb
      intro HBS h HS
      have hlt := (Array.getElem?_eq_some_iff.1 h).1
      refine bdone (by kernel_rfl) (fun w1 hg => ?_)
      have h9 := Aside0.mk ((hg.block _ hlt).trans h)
      have hS9 := Aside0.mk (HS.out.trans (Save.of_below hg))
      clear hg h HS hlt wq wp wm wr4 HSH1 HSH2
      go_wp2
      go_roundw
      case rel => exact ⟨k + 1, by go_num, ⟨hk2.out⟩, ⟨by rw [HF2.out, hL.out]; exact h9.out⟩, hS9⟩
      case measure => exact hk3.out
    · obtain rfl : k = s.size := by have := Hk.out; omega
      have hS9 := HS
      clear HS
      go_wp2
      go_end0
      exact ⟨⟨_, rfl⟩, H.out, hS9.out⟩
end Go.Proofs.YtpbaolijacimjaaDoor

set_option linter.unusedSimpArgs false
/- LAYER 5: streams, plainly. -/
namespace Go.Proofs.YtpbaolijacimjaaDoor
open Go.RowKit Go.Proofs.YtpbaolijacimjaaDoorW.PrintWords
/-- the bytes of a block -/
def outN (f0 f1 : Nat → W32) (i : Nat) : Nat := ((f1 (i / 4) + f0 (i / 4)) >>> (8 * (i % 4))).toNat % 256
def blkL (f0 : Nat → W32) : List Nat := (List.range 64).map (outN f0 (rdsF f0 10))
def blkS (key : ByteArray) (n : W32) (nonce : ByteArray) : ByteArray := bStr (blkL (fstF key n nonce))
theorem blkS_size (key : ByteArray) (n : W32) (nonce : ByteArray) : (blkS key n nonce).size = 64 := by
  unfold blkS blkL; rw [bStr_size, List.length_map, List.length_range]
/-- so many blocks -/
def sN (key nonce : ByteArray) : Nat → ByteArray
  | 0 => ⟨#[]⟩
  | k + 1 => sN key nonce k ++ blkS key (BitVec.ofNat 32 (k + 1)) nonce
theorem sN_size (key nonce : ByteArray) (k : Nat) : (sN key nonce k).size = 64 * k := by
  induction k with
  | zero => rfl
  | succ k ih =>
    show (sN key nonce k ++ blkS _ _ _).size = _
    rw [ByteArray.size_append, ih, blkS_size]; omega
def stmF (key nonce : ByteArray) (many : Nat) : ByteArray := (sN key nonce ((many + 63) / 64)).extract 0 many
theorem stmF_size (key nonce : ByteArray) (many : Nat) : (stmF key nonce many).size = many := by
  unfold stmF
  rw [ByteArray.size_extract, sN_size]; omega
theorem w32_lit (k : Nat) (h : k < 4294967296) : u32 (BitVec.ofNat 32 k) = .int .u32 (k : Int) := by
  show Value.int .u32 (un _) = _
  unfold un
  rw [BitVec.toNat_ofNat, Nat.mod_eq_of_lt h]
/-- the first i bytes are xor others -/
def xz (L M : List Nat) (i : Nat) : List Nat := (List.range L.length).map (fun j => if j < i then L.getD j 0 ^^^ M.getD j 0 else L.getD j 0)
theorem xz_len (L M : List Nat) (i : Nat) : (xz L M i).length = L.length := by unfold xz; rw [List.length_map, List.length_range]
theorem xz_get (L M : List Nat) (i b : Nat) (h : L[i]? = some b) : (xz L M i)[i]? = some b := by
  have hi := (List.getElem?_eq_some_iff.1 h).1
  unfold xz
  rw [List.getElem?_map, List.getElem?_range hi]
  simp only [Option.map_some, Nat.lt_irrefl, if_false]
  rw [List.getD_eq_getElem?_getD, h]; rfl
theorem xz_zero (L M : List Nat) : xz L M 0 = L := by
  refine List.ext_getElem? fun i => ?_
  unfold xz
  rw [List.getElem?_map]
  rcases Nat.lt_or_ge i L.length with h | h
  · rw [List.getElem?_range h, List.getElem?_eq_getElem h]
    simp [h]
  · rw [List.getElem?_eq_none (by simpa using h), List.getElem?_eq_none h]; rfl
theorem xz_succ (L M : List Nat) (i a b : Nat) (h : L[i]? = some a) (hm : M[i]? = some b) : xz L M (i + 1) = (xz L M i).set i (a ^^^ b) := by
  have hi := (List.getElem?_eq_some_iff.1 h).1
  refine List.ext_getElem? fun j => ?_
  rw [List.getElem?_set, xz_len]
  unfold xz
  by_cases hj : i = j
  · subst hj
    rw [if_pos rfl, if_pos hi, List.getElem?_map, List.getElem?_range hi]
    simp only [Option.map_some, Nat.lt_succ_self, if_true]
    rw [List.getD_eq_getElem?_getD, h, List.getD_eq_getElem?_getD, hm]; rfl
  · rw [if_neg hj, List.getElem?_map, List.getElem?_map]
    rcases Nat.lt_or_ge j L.length with hl | hl
    · rw [List.getElem?_range hl]
      simp only [Option.map_some]
      by_cases hji : j < i
      · rw [if_pos hji, if_pos (by omega)]
      · rw [if_neg hji, if_neg (by omega)]
    · rw [List.getElem?_eq_none (by simpa using hl)]; rfl
/-- bytes xor others -/
def xorL (L M : List Nat) : List Nat := xz L M L.length
def xorF (key nonce s : ByteArray) : ByteArray := bStr (xorL (bOf s) (bOf (stmF key nonce s.size)))
theorem xorL_len (L M : List Nat) : (xorL L M).length = L.length := xz_len _ _ _
theorem xorF_size (key nonce s : ByteArray) : (xorF key nonce s).size = s.size := by unfold xorF; rw [bStr_size, xorL_len, bOf_len]
theorem xorL_get (L M : List Nat) (i : Nat) (h : i < L.length) : (xorL L M)[i]? = some (L.getD i 0 ^^^ M.getD i 0) := by
  unfold xorL xz
  rw [List.getElem?_map, List.getElem?_range h]
  simp [h]
theorem xor_lt {a b : Nat} (ha : a < 256) (hb : b < 256) : a ^^^ b < 256 := Nat.xor_lt_two_pow (n := 8) ha hb
theorem getD_lt (L : List Nat) (h : ∀ d ∈ L, d < 256) (i : Nat) : L.getD i 0 < 256 := by
  rw [List.getD_eq_getElem?_getD]
  rcases hi : L[i]? with _ | x
  · decide
  · exact h x (List.mem_of_getElem? hi)
theorem xorL_lt (L M : List Nat) (hL : ∀ d ∈ L, d < 256) (hM : ∀ d ∈ M, d < 256) : ∀ d ∈ xorL L M, d < 256 := by
  intro d hd
  obtain ⟨i, hi⟩ := List.mem_iff_getElem?.1 hd
  have hl := (List.getElem?_eq_some_iff.1 hi).1
  rw [xorL_len] at hl
  rw [xorL_get L M i hl] at hi
  obtain rfl := Option.some.inj hi
  exact xor_lt (getD_lt L hL i) (getD_lt M hM i)
theorem xorL_two (L M : List Nat) : xorL (xorL L M) M = L := by
  refine List.ext_getElem? fun i => ?_
  rcases Nat.lt_or_ge i L.length with h | h
  · rw [xorL_get _ _ _ (by rw [xorL_len]; exact h), List.getD_eq_getElem?_getD, xorL_get L M i h, List.getElem?_eq_getElem h]
    simp only [Option.getD_some]
    rw [Nat.xor_assoc, Nat.xor_self, Nat.xor_zero, List.getD_eq_getElem?_getD, List.getElem?_eq_getElem h]; rfl
  · rw [List.getElem?_eq_none (by rw [xorL_len, xorL_len]; exact h), List.getElem?_eq_none h]
theorem xorF_two (key nonce s : ByteArray) : xorF key nonce (xorF key nonce s) = s := by
  have e : xorF key nonce (xorF key nonce s) = bStr (xorL (bOf (xorF key nonce s)) (bOf (stmF key nonce (xorF key nonce s).size))) := rfl
  rw [e, xorF_size]
  unfold xorF
  rw [bOf_str _ (xorL_lt _ _ (bOf_lt _) (bOf_lt _)), xorL_two, bStr_of]
end Go.Proofs.YtpbaolijacimjaaDoor

set_option linter.unusedSimpArgs false
/- LAYER 5: a block. -/
namespace Go.Proofs.YtpbaolijacimjaaDoor
open Go.RowKit Go.Proofs.YtpbaolijacimjaaDoorW.PrintWords
theorem Own.saveS {w0 w w1 : World} {L : List (Nat × Obj)} {x : Nat → Prop} (h : Own w0 L w) (hs : Save x w w1) (hx : ∀ k, x k → w0.heap.size ≤ k ∧ k ∉ L.map (·.1)) : Own w0 L w1 :=
  ⟨h.below.trans ⟨hs.os, hs.tape, hs.output, hs.size, fun k hk => by
      by_cases hxk : x k
      · exact absurd (hx k hxk).1 (by omega)
      · exact hs.block k (Nat.lt_of_lt_of_le hk h.below.size) hxk⟩, fun p hp => by
    have hm := h.mem p hp
    refine ⟨(hs.block p.1 (Array.getElem?_eq_some_iff.1 hm.1).1 (fun hxk => ?_)).trans hm.1, hm.2⟩
    exact (hx p.1 hxk).2 (List.mem_map.2 ⟨p, hp, rfl⟩), h.nd⟩
theorem Own.saveHead {w0 w w1 : World} {L : List (Nat × Obj)} {g : Nat} {o o' : Obj} (h : Own w0 ((g, o) :: L) w) (hs : Save (· = g) w w1) (hb : w1.heap[g]? = some o') : Own w0 ((g, o') :: L) w1 := by
  have hnd := h.nd
  simp only [List.map_cons, List.nodup_cons] at hnd
  refine ((h.drop L (List.sublist_cons_self _ _)).saveS hs (fun k hk => ?_)).take hb (h.ge 0 rfl) hnd.1
  subst hk
  exact ⟨h.ge 0 rfl, hnd.1⟩
theorem zero_arr : #[Value.int .u32 1634760805, .int .u32 857760878, .int .u32 2036477234, .int .u32 1797285236, .int .u32 0, .int .u32 0, .int .u32 0, .int .u32 0, .int .u32 0, .int .u32 0, .int .u32 0, .int .u32 0, .int .u32 0, .int .u32 0, .int .u32 0, .int .u32 0] = arr16 zeroF := by kernel_rfl
def outC (f0 fw : Nat → W32) (k : Nat) : Array Value := ((List.range 64).map fun i => Value.int .u8 (if i < k then ((outN f0 fw i : Nat) : Int) else 0)).toArray
theorem outC_set (f0 fw : Nat → W32) (k : Nat) (hk : k < 64) : (outC f0 fw k).setIfInBounds k (.int .u8 ((outN f0 fw k : Nat) : Int)) = outC f0 fw (k + 1) := by
  unfold outC
  rw [List.setIfInBounds_toArray]
  congr 1
  refine List.ext_getElem? fun i => ?_
  rw [List.getElem?_set, List.length_map, List.length_range]
  by_cases h : k = i
  · subst h
    rw [if_pos rfl, if_pos hk, List.getElem?_map, List.getElem?_range hk]
    simp
  · rw [if_neg h, List.getElem?_map, List.getElem?_map]
    rcases Nat.lt_or_ge i 64 with h64 | h64
    · rw [List.getElem?_range h64]
      simp only [Option.map_some]
      by_cases hik : i < k
      · rw [if_pos hik, if_pos (by omega)]
      · rw [if_neg hik, if_neg (by omega)]
    · rw [List.getElem?_eq_none (by simpa using h64)]; rfl
theorem outC_get (f0 fw : Nat → W32) (k j : Nat) (hj : j < 64) : ∃ x, (outC f0 fw k)[j]? = some (.int .u8 x) := by
  unfold outC
  rw [List.getElem?_toArray, List.getElem?_map, List.getElem?_range hj]
  exact ⟨_, rfl⟩
theorem outC_end (f0 fw : Nat → W32) : outC f0 fw 64 = ((bI ((List.range 64).map (outN f0 fw))).map (Value.int .u8)).toArray := by
  unfold outC bI
  rw [List.map_map, List.map_map]
  refine congrArg List.toArray (List.map_congr_left fun i hi => ?_)
  rw [if_pos (List.mem_range.1 hi)]; rfl
theorem arr_conv {w : World} {g : Nat} {l : List Nat} {T : TypeId} {fr : Nat × Nat} (h : w.heap[g]? = some (.cells ((bI l).map (Value.int .u8)).toArray T fr)) (hl : l.length ≤ 9223372036854775807) (c : Nat) : (convert 42 9 (.slice (some ⟨g, 0, none⟩) l.length c)).run Tryd.prog w = .ok (.string (bStr l)) w := by
  refine string_of_reads (xs := bI l) Tryd.underlying42 Tryd.underlying5 Tryd.underlying9 ?_
  refine ⟨bI_len l, hl, fun _ => ⟨_, rfl, fun j hj => ?_⟩⟩
  rw [add_plain]
  simp only [World.cell?, h]
  have hj2 : j < (bI l).length := by rw [bI_len]; exact hj
  simp [List.getD_eq_getElem?_getD, List.getElem?_eq_getElem hj2]
attribute [local irreducible] Calls
attribute [local go_sem] un_or un_xor un_and un_add un_addw
set_option maxHeartbeats 8000000 in
set_option maxRecDepth 100000 in
theorem block_any (key nonce : ByteArray) (n : W32) (hk : key.size = 32) (hn : nonce.size = 12) (w : World) :
    Calls Tryd.prog 83 #[.string key, u32 n, .string nonce] w fun e w' => e = .returned (.string (blkS key n nonce)) ∧ Below w.heap.size w w' := by
  have HO := (Own.start w).alloc' (.cells (arr16 zeroF) 141) rfl
  have HL1 := Lib.hid (fun w1 h => load_any w.heap.size zeroF 4 key (by omega) w1 h)
  have HL2 := Lib.hid (fun w1 h => load_any w.heap.size (upd (ldP zeroF 4 key key.size) 12 n) 13 nonce (by omega) w1 h)
  have HF := Lib.hid (show ldP (upd (ldP zeroF 4 key key.size) 12 n) 13 nonce nonce.size = fstF key n nonce from rfl)
  have HR := Lib.hid (show blkS key n nonce = bStr (blkL (fstF key n nonce)) from rfl)
  generalize blkS key n nonce = res at *
  generalize fstF key n nonce = f0 at *
  generalize ldP (upd (ldP zeroF 4 key key.size) 12 n) 13 nonce nonce.size = f0' at *
  generalize hL1 : ldP zeroF 4 key key.size = f1 at *
  clear hL1 hk hn
  go_enter Tryd.func83, Tryd.ntmps83
  go_wp2_with fail
  rw [zero_arr]
  refine (HL1.out _ (HO.blk 0 rfl)).mono ?_
  rintro e w1 ⟨⟨v1, rfl⟩, hb1, hs1⟩
  replace HO := HO.saveHead hs1 hb1
  clear hb1 hs1 HL1
  have f12 := HO.frozen 0 rfl 12
  have c12 : w1.cell? ⟨w.heap.size, 12, none⟩ = some (u32 (f1 12)) := by have := HO.cell 0 rfl 12; rwa [arr16_get _ 12 (by decide)] at this
  go_wp2_with fail
  replace HO := HO.set' 0 rfl 12 (u32 n) (L' := [(w.heap.size, .cells (arr16 (upd f1 12 n)) 141 (0, 0))]) (by rw [arr16_set f1 12 (by decide)]; rfl)
  clear f12 c12
  refine (HL2.out _ (HO.blk 0 rfl)).mono ?_
  rintro e w2 ⟨⟨v2, rfl⟩, hb1, hs1⟩
  replace HO := HO.saveHead hs1 hb1
  rw [HF.out] at HO
  clear hb1 hs1 HL2 HF
  have HO2 := HO.alloc' (.cells (arr16 f0) 141) rfl
  go_wp2_with (first | (refine wpList_load_row rfl 141 (.tmp 7) rfl _ (by rfl) _ (arr16 f0) _ _ (HO.blk 0 rfl) Tryd.underlying141 rfl (by kernel_rfl) ?_) | (refine wpList_store_row rfl 141 (.tmp 8) (.tmp 20) rfl w2.heap.size (arr16 f0) (by rfl) (by rfl) _ _ (heap_alloc_new w2 _) (by kernel_rfl) rfl (arr16_one f0) ?_; rw [World.setRow_alloc_new]))
  generalize w2.alloc (.cells (arr16 f0) 141) = wq at *
  generalize w2.heap.size = gs at *
  clear HO
  go_loopw [21] (fun c wr => ∃ t : Nat, c = .int .i64 (t : Int) ∧ Aside0 (t ≤ 10) ∧ Aside0 (Own w [(gs, .cells (arr16 (rdsF f0 t)) 141 (0, 0)), (w.heap.size, .cells (arr16 f0) 141 (0, 0))] wr)) (fun c _ => 10 - (intOf c).toNat)
  case atStart => exact ⟨0, rfl, ⟨by omega⟩, ⟨HO2⟩⟩
  case round =>
    clear HO2
    obtain ⟨t, rfl, Ht, HO⟩ := hrel
    by_cases hlt : t < 10
    · have t1 : (t : Int) < 10 := by omega
      have HN := Lib.hid (show rdsF f0 (t + 1) = diaF (colF (rdsF f0 t) 4) 4 from rfl)
      generalize rdsF f0 t = wt at *
      have HOa := Lib.hid HO.out
      clear HO
      go_wp2_with fail
      obtain ⟨wo, rfl⟩ : ∃ wo : World, wo = wr := ⟨_, rfl⟩
      go_loopw [23] (fun c wr => ∃ i : Nat, c = .int .i64 (i : Int) ∧ Aside0 (i ≤ 4) ∧ Aside0 (Own w [(gs, .cells (arr16 (colF wt i)) 141 (0, 0)), (w.heap.size, .cells (arr16 f0) 141 (0, 0))] wr)) (fun c _ => 4 - (intOf c).toNat)
      case atStart => exact ⟨0, rfl, ⟨by omega⟩, ⟨HOa.out⟩⟩
      case round =>
        clear HOa
        obtain ⟨i, rfl, Hi, HO⟩ := hrel
        by_cases hi : i < 4
        · have i1 : (i : Int) < 4 := by omega
          obtain ⟨a, ha, ha'⟩ : ∃ a : Nat, (4 : Int) + (i : Int) = (a : Int) ∧ a = 4 + i := ⟨4 + i, by omega, rfl⟩
          obtain ⟨b, hb, hb'⟩ : ∃ b : Nat, (8 : Int) + (i : Int) = (b : Int) ∧ b = 8 + i := ⟨8 + i, by omega, rfl⟩
          obtain ⟨c, hc, hc'⟩ : ∃ c : Nat, (12 : Int) + (i : Int) = (c : Int) ∧ c = 12 + i := ⟨12 + i, by omega, rfl⟩
          have HM := Lib.hid (fun w1 h => mix_any gs (colF wt i) i a b c (by omega) (by omega) (by omega) (by omega) w1 h)
          have HC := Lib.hid (show colF wt (i + 1) = cmx (colF wt i) i a b c from by rw [ha', hb', hc']; rfl)
          generalize colF wt i = cu at *
          clear ha' hb' hc'
          go_wp2_with fail
          refine (HM.out _ (HO.out.blk 0 rfl)).mono ?_
          rintro e w1 ⟨⟨v, rfl⟩, hb, hs⟩
          have HOn := Aside0.mk (HO.out.saveHead hs hb)
          clear hb hs HM HO
          go_wp2
          go_roundw
          case rel => exact ⟨i + 1, by go_num, ⟨by omega⟩, ⟨by rw [HC.out]; exact HOn.out⟩⟩
          case measure => simp [intOf]; omega
        · have hi4 : i = 4 := by have := Hi.out; omega
          have HO := HO.out
          rw [hi4] at HO
          have i1 : ¬ ((i : Int) < 4) := by omega
          clear hi Hi hi4
          have HOb := Lib.hid HO
          clear HO
          go_wp2_with fail
          obtain ⟨wo2, rfl⟩ : ∃ wo2 : World, wo2 = wr := ⟨_, rfl⟩
          go_loopw [35] (fun c wr => ∃ i : Nat, c = .int .i64 (i : Int) ∧ Aside0 (i ≤ 4) ∧ Aside0 (Own w [(gs, .cells (arr16 (diaF (colF wt 4) i)) 141 (0, 0)), (w.heap.size, .cells (arr16 f0) 141 (0, 0))] wr)) (fun c _ => 4 - (intOf c).toNat)
          case atStart => exact ⟨0, rfl, ⟨by omega⟩, ⟨HOb.out⟩⟩
          case round =>
            clear HOb
            obtain ⟨i, rfl, Hi, HO⟩ := hrel
            by_cases hi : i < 4
            · have i1 : (i : Int) < 4 := by omega
              obtain ⟨p, hp, hp', hp2⟩ : ∃ p : Nat, ((i : Int) + 1) % 4 = (p : Int) ∧ p = (i + 1) % 4 ∧ Int.tmod ((i : Int) + 1) 4 = (p : Int) := ⟨(i + 1) % 4, by omega, rfl, by rw [Int.tmod_eq_emod_of_nonneg (by omega)]; omega⟩
              obtain ⟨q, hq, hq', hq2⟩ : ∃ p : Nat, ((i : Int) + 2) % 4 = (p : Int) ∧ p = (i + 2) % 4 ∧ Int.tmod ((i : Int) + 2) 4 = (p : Int) := ⟨(i + 2) % 4, by omega, rfl, by rw [Int.tmod_eq_emod_of_nonneg (by omega)]; omega⟩
              obtain ⟨r, hr, hr', hr2⟩ : ∃ p : Nat, ((i : Int) + 3) % 4 = (p : Int) ∧ p = (i + 3) % 4 ∧ Int.tmod ((i : Int) + 3) 4 = (p : Int) := ⟨(i + 3) % 4, by omega, rfl, by rw [Int.tmod_eq_emod_of_nonneg (by omega)]; omega⟩
              obtain ⟨a, ha, ha'⟩ : ∃ a : Nat, (4 : Int) + (p : Int) = (a : Int) ∧ a = 4 + p := ⟨4 + p, by omega, rfl⟩
              obtain ⟨b, hb, hb'⟩ : ∃ b : Nat, (8 : Int) + (q : Int) = (b : Int) ∧ b = 8 + q := ⟨8 + q, by omega, rfl⟩
              obtain ⟨c, hc, hc'⟩ : ∃ c : Nat, (12 : Int) + (r : Int) = (c : Int) ∧ c = 12 + r := ⟨12 + r, by omega, rfl⟩
              have HM := Lib.hid (fun w1 h => mix_any gs (diaF (colF wt 4) i) i a b c (by omega) (by omega) (by omega) (by omega) w1 h)
              have HC := Lib.hid (show diaF (colF wt 4) (i + 1) = cmx (diaF (colF wt 4) i) i a b c from by rw [ha', hb', hc', hp', hq', hr']; rfl)
              generalize diaF (colF wt 4) i = cu at *
              clear ha' hb' hc' hp' hq' hr'
              go_wp2_with fail
              refine (HM.out _ (HO.out.blk 0 rfl)).mono ?_
              rintro e w1 ⟨⟨v, rfl⟩, hb, hs⟩
              have HOn := Aside0.mk (HO.out.saveHead hs hb)
              clear hb hs HM HO
              go_wp2
              go_roundw
              case rel => exact ⟨i + 1, by go_num, ⟨by omega⟩, ⟨by rw [HC.out]; exact HOn.out⟩⟩
              case measure => simp [intOf]; omega
            · have hi4 : i = 4 := by have := Hi.out; omega
              have HO := HO.out
              rw [hi4] at HO
              have i1 : ¬ ((i : Int) < 4) := by omega
              clear hi Hi hi4
              have HOc := Aside0.mk HO
              clear HO
              go_wp2
              go_roundw
              case rel => exact ⟨t + 1, by go_num, ⟨by omega⟩, ⟨by rw [HN.out]; exact HOc.out⟩⟩
              case measure => simp [intOf]; omega
    · have ht10 : t = 10 := by have := Ht.out; omega
      have HO := HO.out
      rw [ht10] at HO
      have i1 : ¬ ((t : Int) < 10) := by omega
      clear hlt Ht ht10
      generalize hfw : rdsF f0 10 = fw at *
      have HFW := Lib.hid hfw
      clear hfw
      have HO3 := HO.alloc' (.cells (outC f0 fw 0) 144) rfl
      rw [show outC f0 fw 0 = #[.int .u8 0, .int .u8 0, .int .u8 0, .int .u8 0, .int .u8 0, .int .u8 0, .int .u8 0, .int .u8 0, .int .u8 0, .int .u8 0, .int .u8 0, .int .u8 0, .int .u8 0, .int .u8 0, .int .u8 0, .int .u8 0, .int .u8 0, .int .u8 0, .int .u8 0, .int .u8 0, .int .u8 0, .int .u8 0, .int .u8 0, .int .u8 0, .int .u8 0, .int .u8 0, .int .u8 0, .int .u8 0, .int .u8 0, .int .u8 0, .int .u8 0, .int .u8 0, .int .u8 0, .int .u8 0, .int .u8 0, .int .u8 0, .int .u8 0, .int .u8 0, .int .u8 0, .int .u8 0, .int .u8 0, .int .u8 0, .int .u8 0, .int .u8 0, .int .u8 0, .int .u8 0, .int .u8 0, .int .u8 0, .int .u8 0, .int .u8 0, .int .u8 0, .int .u8 0, .int .u8 0, .int .u8 0, .int .u8 0, .int .u8 0, .int .u8 0, .int .u8 0, .int .u8 0, .int .u8 0, .int .u8 0, .int .u8 0, .int .u8 0, .int .u8 0] from rfl] at HO3
      have HO3h := Lib.hid HO3
      clear HO3 HO
      go_wp2_with fail
      have HO := HO3h.out
      rw [show #[.int .u8 0, .int .u8 0, .int .u8 0, .int .u8 0, .int .u8 0, .int .u8 0, .int .u8 0, .int .u8 0, .int .u8 0, .int .u8 0, .int .u8 0, .int .u8 0, .int .u8 0, .int .u8 0, .int .u8 0, .int .u8 0, .int .u8 0, .int .u8 0, .int .u8 0, .int .u8 0, .int .u8 0, .int .u8 0, .int .u8 0, .int .u8 0, .int .u8 0, .int .u8 0, .int .u8 0, .int .u8 0, .int .u8 0, .int .u8 0, .int .u8 0, .int .u8 0, .int .u8 0, .int .u8 0, .int .u8 0, .int .u8 0, .int .u8 0, .int .u8 0, .int .u8 0, .int .u8 0, .int .u8 0, .int .u8 0, .int .u8 0, .int .u8 0, .int .u8 0, .int .u8 0, .int .u8 0, .int .u8 0, .int .u8 0, .int .u8 0, .int .u8 0, .int .u8 0, .int .u8 0, .int .u8 0, .int .u8 0, .int .u8 0, .int .u8 0, .int .u8 0, .int .u8 0, .int .u8 0, .int .u8 0, .int .u8 0, .int .u8 0, .int .u8 0] = outC f0 fw 0 from rfl] at HO
      clear HO3h
      generalize wr.heap.size = go_ at *
      rw [show #[.int .u8 0, .int .u8 0, .int .u8 0, .int .u8 0, .int .u8 0, .int .u8 0, .int .u8 0, .int .u8 0, .int .u8 0, .int .u8 0, .int .u8 0, .int .u8 0, .int .u8 0, .int .u8 0, .int .u8 0, .int .u8 0, .int .u8 0, .int .u8 0, .int .u8 0, .int .u8 0, .int .u8 0, .int .u8 0, .int .u8 0, .int .u8 0, .int .u8 0, .int .u8 0, .int .u8 0, .int .u8 0, .int .u8 0, .int .u8 0, .int .u8 0, .int .u8 0, .int .u8 0, .int .u8 0, .int .u8 0, .int .u8 0, .int .u8 0, .int .u8 0, .int .u8 0, .int .u8 0, .int .u8 0, .int .u8 0, .int .u8 0, .int .u8 0, .int .u8 0, .int .u8 0, .int .u8 0, .int .u8 0, .int .u8 0, .int .u8 0, .int .u8 0, .int .u8 0, .int .u8 0, .int .u8 0, .int .u8 0, .int .u8 0, .int .u8 0, .int .u8 0, .int .u8 0, .int .u8 0, .int .u8 0, .int .u8 0, .int .u8 0, .int .u8 0] = outC f0 fw 0 from rfl]
      generalize World.alloc wr _ = wy at *
      have HOd := Lib.hid HO
      clear HO
      go_loopw [54] (fun c wr => ∃ k : Nat, c = .int .i64 (k : Int) ∧ Aside0 (k ≤ 64) ∧ Aside0 (Own w [(go_, .cells (outC f0 fw k) 144 (0, 0)), (gs, .cells (arr16 fw) 141 (0, 0)), (w.heap.size, .cells (arr16 f0) 141 (0, 0))] wr)) (fun c _ => 64 - (intOf c).toNat)
      case atStart => exact ⟨0, rfl, ⟨by omega⟩, ⟨HOd.out⟩⟩
      case round =>
        clear HOd
        obtain ⟨k, rfl, Hk, HOA⟩ := hrel
        have HO := HOA.out
        by_cases hk : k < 64
        · have i0 : (0 : Int) ≤ (k : Int) := by omega
          have k1 : (k : Int) < 64 := by omega
          obtain ⟨q, hq, hq1, q16, hq3⟩ : ∃ q : Nat, (k : Int) / 4 = (q : Int) ∧ q = k / 4 ∧ q < 16 ∧ Int.tdiv (k : Int) 4 = (q : Int) := ⟨k / 4, by omega, rfl, by omega, by rw [Int.tdiv_eq_ediv_of_nonneg (by omega)]; omega⟩
          obtain ⟨r, hr, hr1, hr2⟩ : ∃ r : Nat, (k : Int) % 4 = (r : Int) ∧ r = k % 4 ∧ Int.tmod (k : Int) 4 = (r : Int) := ⟨k % 4, by omega, rfl, by rw [Int.tmod_eq_emod_of_nonneg (by omega)]; omega⟩
          obtain ⟨m, hm, hm1⟩ : ∃ m : Nat, (8 : Int) * (r : Int) = (m : Int) ∧ m = 8 * r := ⟨8 * r, by omega, rfl⟩
          have hk1h := Lib.hid (show wrap64 ((k : Int) + 1) = (k : Int) + 1 by unfold wrap64; omega)
          have hk2 := Lib.hid (show k + 1 ≤ 64 by omega)
          have hk3 := Lib.hid (show 64 - (intOf (Value.int IntKind.i64 ((k : Int) + 1))).toNat < 64 - (intOf (Value.int IntKind.i64 (k : Int))).toNat by simp [intOf]; omega)
          have q0 : (0 : Int) ≤ (q : Int) := by omega
          have q1 : (q : Int) < 16 := by omega
          have m0 : ¬ ((m : Int) < 0) := by omega
          have m32 : m < 32 := by omega
          have HS1 := Lib.hid (show un (fw q + f0 q) / 2 ^ min m 32 = un ((fw q + f0 q) >>> m) by rw [Nat.min_eq_left (by omega)]; exact un_shr _ _)
          have HS2 := Lib.hid (show un (fw q + f0 q) / 2 ^ m = un ((fw q + f0 q) >>> m) from un_shr _ _)
          have HV := Lib.hid (show IntKind.u8.wrap (un ((fw q + f0 q) >>> m)) = ((outN f0 fw k : Nat) : Int) by
            show un ((fw q + f0 q) >>> m) % 256 = _
            unfold outN un
            rw [← hq1, ← hr1, ← hm1]; omega)
          have HSet := Lib.hid (outC_set f0 fw k hk)
          obtain ⟨x0, hx0⟩ := outC_get f0 fw k k hk
          have wq : wrap64 (q : Int) = (q : Int) := by unfold wrap64; omega
          have wm : wrap64 (m : Int) = (m : Int) := by unfold wrap64; omega
          have wr4 : wrap64 (r : Int) = (r : Int) := by unfold wrap64; omega
          clear hq1 hr1 hm1 HOA
          generalize outN f0 fw k = ov at *
          generalize hoc2 : outC f0 fw (k + 1) = oc2 at *
          have HOC2 := Lib.hid hoc2
          clear hoc2
          generalize outC f0 fw k = oc at *
          go_wp2_with fail
          refine bstart (fun _ => w.heap.size) (n := 17) (ds := [16]) #[false, false, false, false, false, false, false, false, false, false, false, false, false, false, false, false, false] (by kernel_rfl) rfl rfl HO.below.size (fun HBS => ?_)
          refine bseq (m := 1) (.inl rfl) [(0, true, some 57), (1, true, some 58), (2, true, some 59), (3, true, some 60), (5, true, some 62), (6, true, some 63), (7, true, some 64), (10, true, some 67), (11, true, some 68), (12, true, some 69), (4, false, some 61), (8, false, some 65), (9, true, some 66), (13, true, some 70), (14, true, some 71), (15, true, some 72)] #[true, true, true, true, true, true, true, true, true, true, true, true, true, true, true, true, false] HBS (by kernel_rfl) rfl (fun _ _ _ _ _ h => h) ?_
          (refine sP (v := ?_) (a' := ?_) rfl rfl (by rfl) ?_ ?_ ?_; rotate_left 2; (· intro w'; go_simp; with_reducible rfl); (· simp only [Act.put, List.setIfInBounds_toArray, List.set_cons_zero, List.set_cons_succ, kw64, kw32]; rfl))
          (refine sP (v := ?_) (a' := ?_) rfl rfl (by rfl) ?_ ?_ ?_; rotate_left 2; (· intro w'; go_simp; with_reducible rfl); (· simp only [Act.put, List.setIfInBounds_toArray, List.set_cons_zero, List.set_cons_succ, kw64, kw32]; rfl))
          (refine sP (v := ?_) (a' := ?_) rfl rfl (by rfl) ?_ ?_ ?_; rotate_left 2; (· intro w'; go_simp; with_reducible rfl); (· simp only [Act.put, List.setIfInBounds_toArray, List.set_cons_zero, List.set_cons_succ, kw64, kw32]; rfl))
          (refine sP (v := ?_) (a' := ?_) rfl rfl (by rfl) ?_ ?_ ?_; rotate_left 2; (· intro w'; go_simp; with_reducible rfl); (· simp only [Act.put, List.setIfInBounds_toArray, List.set_cons_zero, List.set_cons_succ, kw64, kw32]; rfl))
          (refine sP (v := ?_) (a' := ?_) rfl rfl (by rfl) ?_ ?_ ?_; rotate_left 2; (· intro w'; go_simp; with_reducible rfl); (· simp only [Act.put, List.setIfInBounds_toArray, List.set_cons_zero, List.set_cons_succ, kw64, kw32]; rfl))
          (refine sP (v := ?_) (a' := ?_) rfl rfl (by rfl) ?_ ?_ ?_; rotate_left 2; (· intro w'; go_simp; with_reducible rfl); (· simp only [Act.put, List.setIfInBounds_toArray, List.set_cons_zero, List.set_cons_succ, kw64, kw32]; rfl))
          (refine sP (v := ?_) (a' := ?_) rfl rfl (by rfl) ?_ ?_ ?_; rotate_left 2; (· intro w'; go_simp; with_reducible rfl); (· simp only [Act.put, List.setIfInBounds_toArray, List.set_cons_zero, List.set_cons_succ, kw64, kw32]; rfl))
          (refine sP (v := ?_) (a' := ?_) rfl rfl (by rfl) ?_ ?_ ?_; rotate_left 2; (· intro w'; go_simp; with_reducible rfl); (· simp only [Act.put, List.setIfInBounds_toArray, List.set_cons_zero, List.set_cons_succ, kw64, kw32]; rfl))
          (refine sP (v := ?_) (a' := ?_) rfl rfl (by rfl) ?_ ?_ ?_; rotate_left 2; (· intro w'; go_simp; with_reducible rfl); (· simp only [Act.put, List.setIfInBounds_toArray, List.set_cons_zero, List.set_cons_succ, kw64, kw32]; rfl))
          (refine sP (v := ?_) (a' := ?_) rfl rfl (by rfl) ?_ ?_ ?_; rotate_left 2; (· intro w'; go_simp; with_reducible rfl); (· simp only [Act.put, List.setIfInBounds_toArray, List.set_cons_zero, List.set_cons_succ, kw64, kw32]; rfl))
          (refine sL (v := ?_) (a' := ?_) rfl rfl (by rfl) ?_ ?_ ?_; rotate_left 2; (· intro w1 hg; have c1 := (HO.up hg).cell 1 rfl q; rw [arr16_get _ q q16] at c1; have c2 := (HO.up hg).cell 2 rfl q; rw [arr16_get _ q q16] at c2; go_simp; with_reducible rfl); (· simp only [Act.put, List.setIfInBounds_toArray, List.set_cons_zero, List.set_cons_succ, kw64, kw32]; rfl))
          (refine sL (v := ?_) (a' := ?_) rfl rfl (by rfl) ?_ ?_ ?_; rotate_left 2; (· intro w1 hg; have c1 := (HO.up hg).cell 1 rfl q; rw [arr16_get _ q q16] at c1; have c2 := (HO.up hg).cell 2 rfl q; rw [arr16_get _ q q16] at c2; go_simp; with_reducible rfl); (· simp only [Act.put, List.setIfInBounds_toArray, List.set_cons_zero, List.set_cons_succ, kw64, kw32]; rfl))
          (refine sP (v := ?_) (a' := ?_) rfl rfl (by rfl) ?_ ?_ ?_; rotate_left 2; (· intro w'; go_simp; with_reducible rfl); (· simp only [Act.put, List.setIfInBounds_toArray, List.set_cons_zero, List.set_cons_succ, kw64, kw32]; rfl))
          (refine sP (v := .int .u32 (un ((fw q + f0 q) >>> m))) (a' := ?_) rfl rfl (by rfl) ?_ ?_ ?_; rotate_left 1; (· intro w'; simp only [wm]; clear wq wm wr4; go_simp; first | exact HS1.out | exact HS2.out | rw [HS1.out] | rw [HS2.out]); (· simp only [Act.put, List.setIfInBounds_toArray, List.set_cons_zero, List.set_cons_succ, kw64, kw32]; rfl))
          (refine sP (v := .int .u8 (ov : Int)) (a' := ?_) rfl rfl (by rfl) ?_ ?_ ?_; rotate_left 1; (· intro w'; clear wq wm wr4; go_simp; first | exact HV.out | rw [HV.out]); (· simp only [Act.put, List.setIfInBounds_toArray, List.set_cons_zero, List.set_cons_succ, kw64, kw32]; rfl))
          (refine sP (v := ?_) (a' := ?_) rfl rfl (by rfl) ?_ ?_ ?_; rotate_left 2; (· intro w'; go_simp; with_reducible rfl); (· simp only [Act.put, List.setIfInBounds_toArray, List.set_cons_zero, List.set_cons_succ, kw64, kw32]; rfl))
          refine bone (i := 16) (N := none) #[true, true, true, true, true, true, true, true, true, true, true, true, true, true, true, true, true] rfl rfl (by kernel_rfl) HBS (fun w1 hg K hK => ?_)
          rw [if_pos (by rfl)]
          replace HO := HO.up hg
          have ck := HO.cell 0 rfl k
          rw [hx0] at ck
          have fk := HO.frozen 0 rfl k
          go_simp
          refine hK _ _ (in_ds (by decide) (bel_set (by have := HO.ge 0 rfl; exact this))) (fun HBS => ?_)
          replace HO := HO.set' 0 rfl k (.int .u8 (ov : Int)) (L' := [(go_, .cells oc2 144 (0, 0)), (gs, .cells (arr16 fw) 141 (0, 0)), (w.heap.size, .cells (arr16 f0) 141 (0, 0))]) (by rw [HSet.out]; rfl)
          clear ck fk hg K hK
          revert HO HBS
          generalize World.setCell w1 _ _ = wb
          intro HBS HO
          refine bdone (by kernel_rfl) (fun w1 hg => ?_)
          have HOn := Aside0.mk (HO.up hg)
          clear hg HO hx0 HSet wq wm wr4 HS1 HS2 HV
          go_wp2
          go_roundw
          case rel => exact ⟨k + 1, by go_num, ⟨hk2.out⟩, ⟨by rw [HOC2.out]; exact HOn.out⟩⟩
          case measure => exact hk3.out
        · have hk64 : k = 64 := by have := Hk.out; omega
          rw [hk64, outC_end] at HO
          have k1 : ¬ ((k : Int) < 64) := by omega
          have hcv := arr_conv (w := wr) (HO.blk 0 rfl) (by rw [List.length_map, List.length_range]; decide) 64
          rw [List.length_map, List.length_range, show bStr ((List.range 64).map (outN f0 fw)) = res by rw [HR.out, ← HFW.out]; rfl] at hcv
          have HB := Lib.hid HO.below
          clear HO HOA Hk hk hk64 HR HFW
          go_wp2
          go_ret
          exact ⟨rfl, HB.out⟩
end Go.Proofs.YtpbaolijacimjaaDoor

set_option linter.unusedSimpArgs false
/- LAYER 5: streams, and a text xor one. -/
namespace Go.Proofs.YtpbaolijacimjaaDoor
open Go.RowKit Go.Proofs.YtpbaolijacimjaaDoorW.PrintWords
attribute [local irreducible] Calls
set_option maxHeartbeats 1000000 in
theorem smay_yes (key nonce : ByteArray) (many : Nat) (hk : key.size = 32) (hn : nonce.size = 12) (hm : many ≤ 4096) (w : World) :
    Calls Tryd.prog 82 #[.string key, .string nonce, .int .i64 (many : Int)] w fun e w' => e = .returned (.int .i64 0) ∧ Below w.heap.size w w' := by
  have a1 : (key.size : Int) = 32 := by omega
  have a2 : (nonce.size : Int) = 12 := by omega
  have a3 : ¬ ((many : Int) < 0) := by omega
  have a4 : ¬ ((many : Int) > 4096) := by omega
  clear hk hn hm
  go_enter Tryd.func82, Tryd.ntmps82
  go_wp2
  go_ret
  exact ⟨rfl, Below.refl _ _⟩
set_option maxHeartbeats 8000000 in
set_option maxRecDepth 100000 in
theorem Stream_yes (key nonce : ByteArray) (many : Nat) (hk : key.size = 32) (hn : nonce.size = 12) (hm : many ≤ 4096) (w : World) :
    Calls Tryd.prog 57 #[.string key, .string nonce, .int .i64 (many : Int)] w fun e w' => e = .returned (.tuple #[.string (stmF key nonce many), .int .i64 0]) ∧ Below w.heap.size w w' := by
  have HM := Lib.hid (smay_yes key nonce many hk hn hm w)
  have HBk := Lib.hid (fun n w1 => block_any key nonce n hk hn w1)
  go_enter Tryd.func57, Tryd.ntmps57
  go_wp2_with fail
  refine HM.out.mono ?_
  rintro e w0 ⟨rfl, hb0⟩
  have hb := Lib.fresh_isBuilder 112 5 w0
  have HB0 := Lib.hid (below_alloc (Below.refl w0.heap.size w0) (.cells #[.pointer none, .slice none 0 0] 112))
  have HI0 := Lib.hid hb
  have Hb0 := Lib.hid hb0
  clear hb hb0 HM
  go_wp2_with fail
  go_loopw [10] (fun c10 wr => ∃ n : Nat, c10 = .int .u32 ((n : Int) + 1) ∧ Aside0 (n ≤ 64) ∧ Aside0 (64 * n < many + 64) ∧ Aside0 (Lib.IsBuilder 112 5 w0.heap.size w0.heap.size (Lib.byteCells (sN key nonce n).data.toList) wr) ∧ Aside0 (Below w0.heap.size w0 wr)) (fun c10 _ => 100 - (intOf c10).toNat)
  case atStart => exact ⟨0, rfl, ⟨by omega⟩, ⟨by omega⟩, ⟨HI0.out⟩, ⟨HB0.out⟩⟩
  case round =>
    clear HI0 HB0
    obtain ⟨n, rfl, HN0, HN, HI, HB⟩ := hrel
    have hlen : ((Lib.byteCells (sN key nonce n).data.toList).length : Int) = 64 * (n : Int) := by
      have : (sN key nonce n).data.toList.length = (sN key nonce n).size := by rw [Array.length_toList]; rfl
      rw [Lib.byteCells_length, this, sN_size]; omega
    by_cases hlt : 64 * n < many
    · have hcmp : 64 * (n : Int) < (many : Int) := by omega
      have HT := Lib.hid (HBk.out (BitVec.ofNat 32 (n + 1)))
      rw [w32_lit (n + 1) (by omega), show ((n + 1 : Nat) : Int) = (n : Int) + 1 by omega] at HT
      have HTS := Lib.hid (blkS_size key (BitVec.ofNat 32 (n + 1)) nonce)
      have HO := Lib.hid (show sN key nonce (n + 1) = sN key nonce n ++ blkS key (BitVec.ofNat 32 (n + 1)) nonce from rfl)
      have HOS := Lib.hid (sN_size key nonce n)
      have HN1 := Lib.hid (show n + 1 ≤ 64 by omega)
      have HN2 := Lib.hid (show 64 * (n + 1) < many + 64 by omega)
      have HN3 := Lib.hid (show 100 - (intOf (Value.int IntKind.u32 ((n : Int) + 1 + 1))).toNat < 100 - (intOf (Value.int IntKind.u32 ((n : Int) + 1))).toNat by have := HN1.out; simp [intOf]; omega)
      generalize blkS key (BitVec.ofNat 32 (n + 1)) nonce = bk at *
      go_wp2_with fail
      refine (Builder_Len w0.heap.size w0.heap.size _ _ HI.out).mono ?_
      rintro e w1 ⟨rfl, rfl⟩
      rw [hlen]
      go_wp2_with fail
      refine (HT.out _).mono ?_
      rintro e w2 ⟨rfl, hb⟩
      have HI2 := Lib.hid (bld_below HI.out hb)
      replace HB := Aside0.mk (HB.out.trans (Below.mono hb HB.out.size))
      clear hb HI
      go_wp2_with fail
      refine (Tryd.Builder_WriteString w0.heap.size w0.heap.size _ bk _ HI2.out (by rw [Lib.byteCells_length, HTS.out, show (sN key nonce n).data.toList.length = (sN key nonce n).size by rw [Array.length_toList]; rfl, HOS.out]; omega) HB.out.size).mono ?_
      rintro e w3 ⟨rfl, hI, hb⟩
      have HI3 := Aside0.mk (show Lib.IsBuilder 112 5 w0.heap.size w0.heap.size (Lib.byteCells (sN key nonce (n + 1)).data.toList) w3 from by
        rw [HO.out, app_list, cells_str]
        exact Or.inr hI)
      replace HB := Aside0.mk (HB.out.trans hb)
      clear hI hb
      go_wp2
      go_roundw
      case rel => exact ⟨n + 1, by go_num, ⟨HN1.out⟩, ⟨HN2.out⟩, HI3, HB⟩
      case measure => exact HN3.out
    · have hcmp : ¬ (64 * (n : Int) < (many : Int)) := by omega
      have hq : (many + 63) / 64 = n := by have := HN.out; omega
      have HOS := Lib.hid (sN_size key nonce n)
      have HE := Lib.hid (show (sN key nonce n).extract 0 many = stmF key nonce many by unfold stmF; rw [hq])
      have hsl0 : (0 : Int) ≤ (many : Int) := by omega
      have hsl1 : (many : Int) ≤ ((sN key nonce n).size : Int) := by rw [HOS.out]; omega
      go_wp2_with fail
      refine (Builder_Len w0.heap.size w0.heap.size _ _ HI.out).mono ?_
      rintro e w1 ⟨rfl, rfl⟩
      rw [hlen]
      go_wp2_with fail
      refine (Tryd.Builder_String_any w0.heap.size w0.heap.size _ _ HI.out HB.out.size).mono ?_
      rintro e w2 ⟨rfl, hb⟩
      replace HB := Aside0.mk (HB.out.trans hb)
      rw [show (⟨(sN key nonce n).data.toList.toArray⟩ : ByteArray) = sN key nonce n from rfl]
      generalize sN key nonce n = on at *
      clear hb hlen HI
      go_wp2
      go_ret2
      exact ⟨by rw [← HE.out]; rfl, below_step Hb0.out HB.out⟩
set_option maxHeartbeats 8000000 in
set_option maxRecDepth 100000 in
theorem Xor_yes (key nonce s : ByteArray) (hk : key.size = 32) (hn : nonce.size = 12) (hm : s.size ≤ 4096) (w : World) :
    Calls Tryd.prog 43 #[.string key, .string nonce, .string s] w fun e w' => e = .returned (.tuple #[.string (xorF key nonce s), .int .i64 0]) ∧ Below w.heap.size w w' := by
  have HS := Lib.hid (Stream_yes key nonce s.size hk hn hm w)
  have HSz := Lib.hid (stmF_size key nonce s.size)
  have HX := Lib.hid (show xorF key nonce s = bStr (xorL (bOf s) (bOf (stmF key nonce s.size))) from rfl)
  generalize xorF key nonce s = res at *
  generalize stmF key nonce s.size = y at *
  clear hk hn
  go_enter Tryd.func43, Tryd.ntmps43
  go_wp2_with fail
  refine HS.out.mono ?_
  rintro e w1 ⟨rfl, hb1⟩
  have HB := Lib.hid hb1
  clear hb1 HS
  go_wp2_with ((with_reducible refine wpList_by rfl _ rfl s rfl ?_); intro g cp w4 hg HR hb; have Hge := Aside0.mk (show w.heap.size ≤ g by have := HB.out.size; omega); clear hg; replace HB := Lib.hid (HB.out.trans (Below.mono hb HB.out.size)); clear hb)
  have HL0 := Lib.hid (show ByRow w4 g (xz (bOf s) (bOf y) 0) from by rw [xz_zero]; exact HR)
  have HLen := Lib.hid (bOf_len s)
  have HyL := Lib.hid (show (bOf y).length = s.size by rw [bOf_len, HSz.out])
  rw [HLen.out]
  clear HR
  go_wp2_with fail
  go_loopw [27] (fun c wr => ∃ i : Nat, c = .int .i64 (i : Int) ∧ Aside0 (i ≤ s.size) ∧ Aside0 (ByRow wr g (xz (bOf s) (bOf y) i)) ∧ Aside0 (Below w.heap.size w wr)) (fun c _ => s.size - (intOf c).toNat)
  case atStart => exact ⟨0, rfl, ⟨by omega⟩, ⟨HL0.out⟩, ⟨HB.out⟩⟩
  case round =>
    clear HB HL0
    obtain ⟨i, rfl, Hi, HR, HB⟩ := hrel
    have hys := HSz.out
    by_cases hlt : i < s.size
    · have i0 : (0 : Int) ≤ (i : Int) := by omega
      have i1 : (i : Int) < (s.size : Int) := by omega
      have i2 : (i : Int) < (y.size : Int) := by omega
      have hl := HLen.out
      have hyi : i < y.size := by omega
      obtain ⟨a, ha⟩ : ∃ n, (bOf s)[i]? = some n := ⟨_, List.getElem?_eq_getElem (by omega)⟩
      have ha256 := bOf_lt s a (List.mem_of_getElem? ha)
      have hyb : (bOf y)[i]? = some (y[i].toNat) := by
        unfold bOf
        rw [List.getElem?_map, Array.getElem?_toList, Array.getElem?_eq_getElem (show i < y.data.size from hyi)]
        rfl
      have hb256 := UInt8.toNat_lt y[i]
      have HX1 := Lib.hid (xz_succ (bOf s) (bOf y) i a _ ha hyb)
      have hxi := xz_get (bOf s) (bOf y) i a ha
      have hxl := xz_len (bOf s) (bOf y) i
      have hx8 := xor8 a y[i].toNat ha256 hb256
      have HK2 := Lib.hid (show i + 1 ≤ s.size by omega)
      have hxl2 := Lib.hid (show i < (xz (bOf s) (bOf y) i).length by rw [hxl]; omega)
      clear hl ha hyb hxl
      go_wp2_with fail
      refine bstart (fun _ => w.heap.size) (n := 10) (ds := [9]) #[false, false, false, false, false, false, false, false, false, false] (by kernel_rfl) rfl rfl HB.out.size (fun HBS => ?_)
      refine bseq (m := 1) (.inl rfl) [(0, true, some 30), (1, true, some 31), (2, true, some 32), (4, true, some 34), (5, true, some 35), (6, true, some 36), (3, false, some 33), (7, true, some 37), (8, true, some 38)] #[true, true, true, true, true, true, true, true, true, false] HBS (by kernel_rfl) rfl (fun _ _ _ _ _ h => h) ?_
      (refine sP (v := ?_) (a' := ?_) rfl rfl (by rfl) ?_ ?_ ?_; rotate_left 2; (· intro w'; go_simp; with_reducible rfl); (· simp only [Act.put, List.setIfInBounds_toArray, List.set_cons_zero, List.set_cons_succ, kw64, kw32]; rfl))
      (refine sP (v := ?_) (a' := ?_) rfl rfl (by rfl) ?_ ?_ ?_; rotate_left 2; (· intro w'; go_simp; with_reducible rfl); (· simp only [Act.put, List.setIfInBounds_toArray, List.set_cons_zero, List.set_cons_succ, kw64, kw32]; rfl))
      (refine sP (v := ?_) (a' := ?_) rfl rfl (by rfl) ?_ ?_ ?_; rotate_left 2; (· intro w'; go_simp; with_reducible rfl); (· simp only [Act.put, List.setIfInBounds_toArray, List.set_cons_zero, List.set_cons_succ, kw64, kw32]; rfl))
      (refine sP (v := ?_) (a' := ?_) rfl rfl (by rfl) ?_ ?_ ?_; rotate_left 2; (· intro w'; go_simp; with_reducible rfl); (· simp only [Act.put, List.setIfInBounds_toArray, List.set_cons_zero, List.set_cons_succ, kw64, kw32]; rfl))
      (refine sP (v := ?_) (a' := ?_) rfl rfl (by rfl) ?_ ?_ ?_; rotate_left 2; (· intro w'; go_simp; with_reducible rfl); (· simp only [Act.put, List.setIfInBounds_toArray, List.set_cons_zero, List.set_cons_succ, kw64, kw32]; rfl))
      (refine sP (v := ?_) (a' := ?_) rfl rfl (by rfl) ?_ ?_ ?_; rotate_left 2; (· intro w'; go_simp; with_reducible rfl); (· simp only [Act.put, List.setIfInBounds_toArray, List.set_cons_zero, List.set_cons_succ, kw64, kw32]; rfl))
      (refine sL (v := ?_) (a' := ?_) rfl rfl (by rfl) ?_ ?_ ?_; rotate_left 2; (· intro w1 hg; have c0 := (HR.out.up hg).cell hxi; go_simp; with_reducible rfl); (· simp only [Act.put, List.setIfInBounds_toArray, List.set_cons_zero, List.set_cons_succ, kw64, kw32]; rfl))
      (refine sP (v := ?_) (a' := ?_) rfl rfl (by rfl) ?_ ?_ ?_; rotate_left 2; (· intro w'; go_simp; with_reducible rfl); (· simp only [Act.put, List.setIfInBounds_toArray, List.set_cons_zero, List.set_cons_succ, kw64, kw32]; rfl))
      (refine sP (v := ?_) (a' := ?_) rfl rfl (by rfl) ?_ ?_ ?_; rotate_left 2; (· intro w'; go_simp; with_reducible rfl); (· simp only [Act.put, List.setIfInBounds_toArray, List.set_cons_zero, List.set_cons_succ, kw64, kw32]; rfl))
      refine bone (i := 9) (N := none) #[true, true, true, true, true, true, true, true, true, true] rfl rfl (by kernel_rfl) HBS (fun w1 hg K hK => ?_)
      rw [if_pos (by rfl)]
      have HR1 := HR.out.up hg
      have c0 := HR1.cell hxi
      have f0 := HR1.frozen (j := i) hxl2.out
      go_simp
      refine hK _ _ (in_ds (by decide) (bel_set Hge.out)) (fun HBS => ?_)
      have HR2 := Aside0.mk (HR1.set i (a ^^^ y[i].toNat) hxl2.out)
      rw [← HX1.out] at HR2
      have HB2 := Aside0.mk (below_set (j := i) (v := .int .u8 ((a ^^^ y[i].toNat : Nat) : Int)) (HB.out.trans (Below.mono hg HB.out.size)) Hge.out)
      clear c0 f0 hK K hg HR1 HB HR hxi
      revert HR2 HB2 HBS
      generalize World.setCell w1 _ _ = wb
      intro HBS HR HB
      refine bdone (by kernel_rfl) (fun w1 hg => ?_)
      replace HR := Aside0.mk (HR.out.up hg)
      replace HB := Aside0.mk (HB.out.trans (Below.mono hg HB.out.size))
      clear hg
      go_wp2
      go_roundw
      case rel => exact ⟨i + 1, by go_num, ⟨HK2.out⟩, HR, HB⟩
      case measure => simp [intOf]; omega
    · have hi : i = s.size := by have := Hi.out; omega
      have hL := HLen.out
      have hcv := HR.out.conv (by rw [xz_len]; omega) cp
      rw [xz_len, hL, hi, show xz (bOf s) (bOf y) s.size = xorL (bOf s) (bOf y) by unfold xorL; rw [hL], ← HX.out] at hcv
      have i1 : ¬ ((i : Int) < (s.size : Int)) := by omega
      clear hi hL hys hlt
      go_wp2
      go_ret2
      exact ⟨rfl, HB.out⟩
end Go.Proofs.YtpbaolijacimjaaDoor

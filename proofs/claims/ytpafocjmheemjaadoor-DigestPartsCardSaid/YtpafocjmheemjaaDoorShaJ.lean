import Derived.Test.YtpafocjmheemjaaDoorShaI
set_option linter.unusedSimpArgs false
namespace Go.Proofs.YtpafocjmheemjaaDoor
open Go.RowKit Go.Proofs.YtpafocjmheemjaaDoorW.PrintWords
/-- n words lie at A -/
def RowN (w : World) (A : Option Addr) (n : Nat) (f : Nat → W32) : Prop := 0 < n → ∃ ad, A = some ad ∧ ∀ j, j < n → w.cell? (ad.add j) = some (u32 (f j))
theorem RowN.up {w w1 : World} {A : Option Addr} {n : Nat} {f : Nat → W32} (h : RowN w A n f) (hg : Gr w w1) : RowN w1 A n f := fun hn => by
  obtain ⟨ad, rfl, h'⟩ := h hn
  exact ⟨ad, rfl, fun j hj => pw_cell_below hg (h' j hj)⟩
theorem Row8.toN {w : World} {A : Option Addr} {f : Nat → W32} (h : Row8 w A f) : RowN w A 8 f := fun _ => h
theorem RowN.zero (w : World) (A : Option Addr) (f : Nat → W32) : RowN w A 0 f := fun h => absurd h (by decide)
/-- are two sums the same -/
def SameH (n n' : Nat) (f f' : Nat → W32) (r r' : ByteArray) (m m' : Nat) : Prop := n = n' ∧ r = r' ∧ m = m' ∧ ∀ j, j < n → f j = f' j
instance (n n' : Nat) (f f' : Nat → W32) (r r' : ByteArray) (m m' : Nat) : Decidable (SameH n n' f f' r r' m m') := by unfold SameH; infer_instance
def sameB (n n' : Nat) (f f' : Nat → W32) (r r' : ByteArray) (m m' : Nat) : Bool := decide (SameH n n' f f' r r' m m')
theorem un_inj (a b : W32) : (un a == un b) = decide (a = b) := by
  rw [Bool.eq_iff_iff, beq_iff_eq, decide_eq_true_iff]
  unfold un
  constructor
  · intro h; exact BitVec.eq_of_toNat_eq (by omega)
  · rintro rfl; rfl
theorem str_beq (a b : ByteArray) : (a.toList == b.toList) = decide (a = b) := by
  rw [Bool.eq_iff_iff, beq_iff_eq, decide_eq_true_iff]
  rw [ByteArray.toList_eq, ByteArray.toList_eq]; exact ⟨fun h => ba_ext h, fun h => by rw [h]⟩
attribute [local irreducible] Calls mixF
set_option maxHeartbeats 4000000 in
set_option maxRecDepth 100000 in
theorem Same_any (A A' : Option Addr) (n n' c c' : Nat) (f f' : Nat → W32) (r r' : ByteArray) (m m' : Nat) (w : World) (hn : n ≤ 1000) (hR : RowN w A n f) (hR' : RowN w A' n' f') :
    Calls Tryd.prog 22 #[hashV A n c r m, hashV A' n' c' r' m'] w fun e w' => e = .returned (.bool (sameB n n' f f' r r' m m')) ∧ Below w.heap.size w w' := by
  have HO := ((Own.start w).alloc' (.cells #[.slice A n c, .string r, .int .u64 (m : Int)] 25) rfl).alloc' (.cells #[.slice A' n' c', .string r', .int .u64 (m' : Int)] 25) (by simp : _ = w.heap.size + 1)
  unfold hashV
  by_cases h1 : n = n'
  case neg =>
    have e1 : ((n : Int) != (n' : Int)) = true := by rw [bne_iff_ne]; omega
    rw [show sameB n n' f f' r r' m m' = false by unfold sameB SameH; simp [h1]]
    clear h1 hR hR'
    go_enter Tryd.func22, Tryd.ntmps22
    go_wp2
    go_ret
    exact ⟨rfl, HO.below⟩
  subst h1
  have e1 : ((n : Int) != (n : Int)) = false := by simp
  by_cases h2 : r = r'
  case neg =>
    have e2 : (r.toList == r'.toList) = false := by rw [str_beq]; simp [h2]
    rw [show sameB n n f f' r r' m m' = false by unfold sameB SameH; simp [h2]]
    clear h2 hR hR'
    go_enter Tryd.func22, Tryd.ntmps22
    go_wp2
    go_ret
    exact ⟨rfl, HO.below⟩
  subst h2
  have e2 : (r.toList == r.toList) = true := by simp
  by_cases h3 : m = m'
  case neg =>
    have e3 : ((m : Int) != (m' : Int)) = true := by rw [bne_iff_ne]; omega
    rw [show sameB n n f f' r r m m' = false by unfold sameB SameH; simp [h3]]
    clear h3 hR hR'
    go_enter Tryd.func22, Tryd.ntmps22
    go_wp2
    go_ret
    exact ⟨rfl, HO.below⟩
  subst h3
  have e3 : ((m : Int) != (m : Int)) = false := by simp
  have HR := Lib.hid hR
  have HR' := Lib.hid hR'
  clear hR hR'
  go_enter Tryd.func22, Tryd.ntmps22
  go_wp2
  clear e1 e2 e3
  go_loopw [30] (fun c1 wr => ∃ k : Nat, c1 = .int .i64 (k : Int) ∧ Aside0 (k ≤ n) ∧ Aside0 (∀ j, j < k → f j = f' j) ∧ Own w [(w.heap.size + 1, .cells #[.slice A' n c', .string r, .int .u64 (m : Int)] 25 (0, 0)), (w.heap.size, .cells #[.slice A n c, .string r, .int .u64 (m : Int)] 25 (0, 0))] wr) (fun c1 _ => n - (intOf c1).toNat)
  case atStart => exact ⟨0, rfl, ⟨by omega⟩, ⟨by omega⟩, HO⟩
  case round =>
    clear HO
    obtain ⟨k, rfl, Hk, HE, HO⟩ := hrel
    by_cases hlt : k < n
    · obtain ⟨ad, rfl, h1⟩ := HR.out (by omega)
      obtain ⟨ad', rfl, h2⟩ := HR'.out (by omega)
      have i0 : (0 : Int) ≤ (k : Int) := by omega
      have i1 : (k : Int) < (n : Int) := by omega
      have H1 := Lib.hid (h1 k hlt)
      have H2 := Lib.hid (h2 k hlt)
      clear h1 h2
      go_wp2_with fail
      refine kall [(0, true, some 33), (2, true, some 35), (5, true, some 38), (7, true, some 40), (1, true, some 34), (3, true, some 36), (4, true, some 37), (6, true, some 39), (8, true, some 41), (9, true, some 42), (10, true, some 43)] (by kernel_rfl) rfl (by kernel_rfl) rfl (fun _ _ _ _ _ h => h) ?_
      repeat (first
        | (refine sP (v := ?_) (a' := ?_) rfl rfl (by rfl) ?_ ?_ ?_; rotate_left 2; (· intro w'; go_simp; with_reducible rfl); (· simp only [Act.put, List.setIfInBounds_toArray, List.set_cons_zero, List.set_cons_succ, kw64, kw32]; rfl))
        | (refine sB (v := ?_) (a' := ?_) rfl rfl (by rfl) ?_ ?_ ?_; rotate_left 2; (· intro w1 hg; have c0 := (HO.up hg).cell 1 rfl; have c1 := (HO.up hg).cell 0 rfl; have c2 := pw_cell_below ((HO.up hg).below) H1.out; have c3 := pw_cell_below ((HO.up hg).below) H2.out; go_simp; with_reducible rfl); (· simp only [Act.put, List.setIfInBounds_toArray, List.set_cons_zero, List.set_cons_succ, kw64, kw32]; rfl)))
      intro w1 hg
      replace HO := HO.up hg
      clear hg
      by_cases hf : f k = f' k
      · have e4 : (un (f k) != un (f' k)) = false := by rw [hf]; simp
        have HF := Lib.hid hf
        clear hf
        go_wp2
        go_roundw
        case rel => exact ⟨k + 1, by go_num, ⟨by omega⟩, ⟨fun j hj => by
          rcases Nat.lt_succ_iff_lt_or_eq.1 hj with h | rfl
          · exact HE.out j h
          · exact HF.out⟩, HO⟩
        case measure => simp [intOf]; omega
      · have e4 : (un (f k) != un (f' k)) = true := by
          have := un_inj (f k) (f' k)
          rw [decide_eq_false hf] at this
          show (!(un (f k) == un (f' k))) = true
          rw [this]; rfl
        have HF := Lib.hid (show sameB n n f f' r r m m = false by unfold sameB SameH; simp; exact ⟨k, hlt, hf⟩)
        clear hf
        go_wp2
        go_ret
        exact ⟨by rw [HF.out]; rfl, HO.below⟩
    · have HF := Lib.hid (show sameB n n f f' r r m m = true by
        exact decide_eq_true ⟨rfl, rfl, rfl, fun j hj => HE.out j (by have := Hk.out; omega)⟩)
      have hle : (n : Int) ≤ (k : Int) := by omega
      go_wp2
      go_ret
      exact ⟨by rw [HF.out]; rfl, HO.below⟩
end Go.Proofs.YtpafocjmheemjaaDoor

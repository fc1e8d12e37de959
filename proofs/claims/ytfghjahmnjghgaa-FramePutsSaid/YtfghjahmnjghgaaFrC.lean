import Derived.Test.YtfghjahmnjghgaaFrB
set_option linter.unusedVariables false
set_option linter.unusedSimpArgs false
/- LAYER 8: points that are odd. -/
namespace Go.Proofs.Ytfghjahmnjghgaa
open Go.RowKit Go.Proofs.YtfghjahmnjghgaaW.PrintWords
theorem C_plF {w : World} {A : Option Addr} {n : Nat} {xs : List ByteArray} (h : Kd.string.C w A n xs) (h0 : 0 < n) : ∃ bk of, A = some ⟨bk, of, none⟩ ∧ (∀ (j : Nat) x, xs[j]? = some x → w.cell? ⟨bk, of + j, none⟩ = some (.string x)) ∧ bk < w.heap.size := by
  obtain ⟨ad, hA, hc⟩ := h.2.2 h0
  have hcell : ∀ (j : Nat) x, xs[j]? = some x → w.cell? (ad.add j) = some (.string x) := fun j x hx => by
    obtain ⟨cs, hs, hk, hh⟩ := hc j x hx
    have hk : cs = [.string x] := hk
    subst hk
    have := hh 0 _ rfl
    rw [show j * Kd.string.sz + 0 = j by show j * 1 + 0 = j; omega] at this
    exact this
  obtain ⟨x, hx⟩ : ∃ x, xs[0]? = some x := ⟨_, List.getElem?_eq_getElem (by have := h.1; omega)⟩
  have h1 := hcell 0 x hx
  have ha : ad.add 0 = ad := by unfold Addr.add; simp
  rw [ha] at h1
  have hsp : ad.spot = none ∧ ad.block < w.heap.size := by
    unfold World.cell? at h1
    split at h1
    · rename_i hb
      split at h1
      · cases h1
      · rename_i hs
        refine ⟨by cases hq : ad.spot with | none => rfl | some _ => simp [hq] at hs, (Array.getElem?_eq_some_iff.1 hb).1⟩
    · cases h1
  obtain ⟨bk, of, sp⟩ := ad
  obtain rfl : sp = none := hsp.1
  refine ⟨bk, of, hA, fun j x hx => ?_, hsp.2⟩
  have := hcell j x hx
  rw [Addr.add_mid] at this
  exact this
attribute [local irreducible] Calls
theorem odd_any (s : ByteArray) (w : World) : Calls Try.prog 28 #[.string s] w fun e w' => e = .returned (.bool (!(s.size == 32))) ∧ w' = w := by
  by_cases h : s.size = 32
  · have e1 : ((s.size : Int) != 32) = false := by rw [h]; rfl
    rw [show (s.size == 32) = true from by rw [beq_iff_eq]; exact h]
    clear h
    go_enter Try.func28, Try.ntmps28
    go_wp2
    go_ret
    exact ⟨rfl, rfl⟩
  · have e1 : ((s.size : Int) != 32) = true := by rw [bne_iff_ne]; omega
    rw [show (s.size == 32) = false from by rw [beq_eq_false_iff_ne]; exact h]
    clear h
    go_enter Try.func28, Try.ntmps28
    go_wp2
    go_ret
    exact ⟨rfl, rfl⟩
/-- are there odd ones? -/
def oddL (ks : List ByteArray) : Bool := ks.any (fun s => !(s.size == 32))
set_option maxHeartbeats 4000000 in
set_option maxRecDepth 100000 in
theorem IndexFunc_any (A : Option Addr) (n c : Nat) (ks : List ByteArray) (w : World) (hC : Kd.string.C w A n ks) (hn : n ≤ 1000000) :
    Calls Try.prog 46 #[.slice A n c, .func (.func 28) #[] #[]] w fun e w' => (∃ i : Int, e = .returned (.int .i64 i) ∧ decide (0 ≤ i) = oddL ks) ∧ w' = w := by
  have hl := hC.1
  go_enter Try.func46, Try.ntmps46
  go_wp2_with fail
  go_loopw [8] (fun c8 wr => ∃ i : Nat, c8 = .int .i64 (i : Int) ∧ Aside0 (i ≤ n ∧ oddL (ks.take i) = false) ∧ wr = w) (fun c8 _ => n - (intOf c8).toNat)
  case atStart => exact ⟨0, rfl, ⟨by omega, rfl⟩, rfl⟩
  case round =>
    obtain ⟨i, rfl, hrel, rfl⟩ := hrel
    obtain ⟨hi, ho⟩ := hrel.out
    clear hrel
    by_cases hlt : i < n
    · have i1 : (i : Int) < (n : Int) := by omega
      have i0 : (0 : Int) ≤ (i : Int) := by omega
      obtain ⟨bk, of, rfl, hcell, _⟩ := C_plF hC (by omega)
      obtain ⟨x, hx⟩ : ∃ x, ks[i]? = some x := ⟨_, List.getElem?_eq_getElem (by omega)⟩
      have c0 := hcell i x hx
      by_cases hq : x.size = 32
      · have ho' := Lib.hid (show oddL (ks.take (i + 1)) = false by
          rw [List.take_add_one, hx]
          unfold oddL at *
          rw [List.any_append, ho]
          simp [hq])
        have hb : (x.size == 32) = true := by rw [beq_iff_eq]; exact hq
        have HI := Lib.hid (show i + 1 ≤ n by omega)
        clear hx hq ho hcell
        go_wp2_with fail
        refine (odd_any x _).mono ?_
        rintro e w1 ⟨rfl, rfl⟩
        rw [hb]
        go_wp2
        go_roundw
        case rel => exact ⟨i + 1, by go_num, ⟨HI.out, ho'.out⟩, by first | rfl | trivial⟩
        case measure => simp [intOf]; omega
      · have hall := Lib.hid (show oddL ks = true by
          unfold oddL
          rw [List.any_eq_true]
          exact ⟨x, List.mem_of_getElem? hx, by simp [hq]⟩)
        have hb : (x.size == 32) = false := by rw [beq_eq_false_iff_ne]; exact hq
        clear hx hq ho hcell
        go_wp2_with fail
        refine (odd_any x _).mono ?_
        rintro e w1 ⟨rfl, rfl⟩
        rw [hb]
        go_wp2
        go_ret
        exact ⟨⟨_, rfl, by rw [hall.out]; exact decide_eq_true i0⟩, rfl⟩
    · have hge : ¬ ((i : Int) < (n : Int)) := by omega
      have hall : oddL ks = false := by rw [List.take_of_length_le (by omega)] at ho; exact ho
      go_wp2
      go_ret
      exact ⟨⟨_, rfl, by first | (rw [hall]; rfl) | decide⟩, rfl⟩
set_option maxHeartbeats 1000000 in
theorem ContainsFunc_any (A : Option Addr) (n c : Nat) (ks : List ByteArray) (w : World) (hC : Kd.string.C w A n ks) (hn : n ≤ 1000000) :
    Calls Try.prog 29 #[.slice A n c, .func (.func 28) #[] #[]] w fun e w' => e = .returned (.bool (oddL ks)) ∧ w' = w := by
  have HI := Lib.hid (IndexFunc_any A n c ks w hC hn)
  go_enter Try.func29, Try.ntmps29
  go_wp2_with fail
  refine HI.out.mono ?_
  rintro e w1 ⟨⟨i, rfl, hi⟩, rfl⟩
  have HH := Lib.hid hi
  clear hi
  go_wp2
  go_ret
  exact ⟨by rw [← HH.out]; rfl, rfl⟩
end Go.Proofs.Ytfghjahmnjghgaa

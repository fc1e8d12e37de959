import Derived.Test.YtfghjahmnjghgaaWireP
import Derived.Test.YtfghjahmnjghgaaProg
import Derived.Deep.RegionHeld3
import Derived.Deep.QuietTactic
import Derived.BigQuiet
set_option linter.unusedSimpArgs false
set_option linter.unusedVariables false
namespace Go.Proofs.Ytfghjahmnjghgaa
open Go.RowKit Go.Proofs.YtfghjahmnjghgaaW.PrintWords

set_option maxHeartbeats 1000000 in
theorem RNumber_any (n : Nat) (w : World) (h : n < 18446744073709551616) :
    Calls Try.prog 33 #[.int .u64 n] w fun e w' => e = .returned (.string (numS n)) ∧ Below w.heap.size w w' := by
  have hm : numLen n ≤ 8 := by have := Lib.bitLen_le n 64 (by omega) h; unfold numLen; omega
  go_enter Try.func33, Try.ntmps33
  go_wp2
  go_loopw [0, 3] (fun v0 v3 wr => ∃ k : Nat, k ≤ numLen n ∧ v0 = .int .u64 ((n / 256 ^ k : Nat) : Int) ∧ v3 = .string ⟨(beL k n).toArray⟩ ∧ Aside0 (Below w.heap.size w wr)) (fun v0 _ _ => (intOf v0).toNat)
  case atStart => exact ⟨0, by omega, by simp, rfl, ⟨Below.refl _ _⟩⟩
  case round =>
    obtain ⟨k, hk, rfl, rfl, HB⟩ := hrel
    by_cases hlt : k < numLen n
    · have h0 := (lt_numLen n k h).1 hlt
      generalize hq : n / 256 ^ k = q at h0 ⊢
      have hq1 : q ≤ n := by rw [← hq]; exact Nat.div_le_self _ _
      have HQ := Lib.hid hq
      clear hq
      have hcv := conv_lit1 Try.underlying63 Try.underlying5 Try.underlying9 wr ((q : Int) % 256)
      have hb : (beL k n).length ≤ 8 := by rw [beL_length]; omega
      go_wp2
      refine ⟨⟨k + 1, by omega, ?_, ?_, ⟨below_alloc HB.out _⟩⟩, ?_⟩
      · rw [Nat.pow_succ, ← Nat.div_div_eq_div_mul, HQ.out]; rfl
      · rw [show (⟨#[UInt8.ofNat (q % 256)]⟩ : ByteArray) = ⟨[UInt8.ofNat (q % 256)].toArray⟩ from rfl, mk_append, beL_front, HQ.out]; rfl
      · simp [intOf]; omega
    · have e : k = numLen n := by omega
      subst e
      have h0 : n / 256 ^ numLen n = 0 := Nat.eq_zero_of_not_pos (mt (lt_numLen n (numLen n) h).2 (Nat.lt_irrefl _))
      rw [h0]
      clear h0
      have hcv := conv_lit1 Try.underlying63 Try.underlying5 Try.underlying9 wr ((beL (numLen n) n).length : Int)
      have hb : (beL (numLen n) n).length ≤ 8 := by rw [beL_length]; omega
      have hb2 := Lib.hid (beL_length (numLen n) n)
      go_wp2
      go_ret
      refine ⟨ret_congr ?_, below_alloc HB.out _⟩
      show Value.string ((⟨[UInt8.ofNat ((beL (numLen n) n).length : Int).toNat].toArray⟩ : ByteArray) ++ ⟨(beL (numLen n) n).toArray⟩) = _
      rw [mk_append, hb2.out]; rfl
set_option maxHeartbeats 1000000 in
theorem ROne_any (p : PartD) (w : World) (h : p.n < 18446744073709551616) (hl : longP p = false) :
    Calls Try.prog 47 #[.agg #[.bool p.text, .int .u64 p.n, .string p.s]] w fun e w' => e = .returned (.string (oneS p)) ∧ Below w.heap.size w w' := by
  obtain ⟨t, n, s⟩ := p
  dsimp only at h ⊢
  cases t with
  | false =>
    have hv : oneS ⟨false, n, s⟩ = numS n := rfl
    rw [hv]
    clear hv
    go_enter Try.func47, Try.ntmps47
    go_wp2_with (first | (go_at_call 33; refine (RNumber_any n _ h).mono ?_; rintro e w1 ⟨rfl, hb1⟩))
    go_ret
    exact ⟨rfl, below_step (below_alloc (Below.refl _ _) _) hb1⟩
  | true =>
    have hv : oneS ⟨true, n, s⟩ = numS s.size ++ s := rfl
    rw [hv]
    clear hv
    have hs : s.size ≤ 1024 := by simpa [longP] using hl
    have h4 := numS_size s.size (by omega)
    go_enter Try.func47, Try.ntmps47
    go_wp2
    have hw1 : IntKind.u64.wrap (s.size : Int) = s.size := IntWalk.u64_in _ (by omega)
    have hadd : ¬ (9223372036854775807 < (numS s.size).size + s.size) := by omega
    have hB := Lib.hid (below_alloc (Below.refl w.heap.size w) (.cells #[.bool true, .int .u64 n, .string s] 67))
    have c2 : (w.alloc (.cells #[.bool true, .int .u64 n, .string s] 67)).cell? ⟨w.heap.size, 2, none⟩ = some (.string s) := by go_simp
    have hlt : w.heap.size < (w.alloc (.cells #[.bool true, .int .u64 n, .string s] 67)).heap.size := by simp
    generalize w.alloc (.cells #[.bool true, .int .u64 n, .string s] 67) = W at hB c2 hlt ⊢
    go_region_held3 (fun w' => w'.cell? ⟨w.heap.size, 2, none⟩ = some (.string s))
      (first | go_keep | (exact (hb1.cell (p := ⟨w.heap.size, 2, none⟩) (by simpa using hlt)).trans (by go_simp)))
      ((go_at_call 33; refine (RNumber_any s.size _ (by omega)).mono ?_; rintro e w1 ⟨rfl, hb1⟩))
    go_wp2
    go_ret
    exact ⟨rfl, (hB.out.trans ((Below.refl _ _).drew)).trans (hb1.mono (Nat.le_of_lt (by simpa using hlt)))⟩
end Go.Proofs.Ytfghjahmnjghgaa

import Derived.Test.YtdmpnogjpgoaaaaLimbW9
set_option linter.unusedSimpArgs false
namespace Go.Proofs.Ytdmpnogjpgoaaaa
open Go.RowKit Go.Proofs.YtdmpnogjpgoaaaaW.PrintWords Go.Proofs.YtdmpnogjpgoaaaaW.PrintLast Go.Proofs.YtdmpnogjpgoaaaaW.PrintMore
/-- the power of the inverse, round by round -/
def iv (n : Nat) : Nat → Nat
  | 0 => 1
  | k + 1 => if k = 252 ∨ k = 250 then iv n k * iv n k % P25 else iv n k * iv n k % P25 * n % P25
def ex : Nat → Nat
  | 0 => 0
  | k + 1 => if k = 252 ∨ k = 250 then 2 * ex k else 2 * ex k + 1
theorem iv_lt (n : Nat) : ∀ k, iv n k < MM ^ 4
  | 0 => by show 1 < MM ^ 4; decide +kernel
  | k + 1 => by
    have h4 := MM4
    have hp := P25_pos
    unfold iv
    split
    · have := Nat.mod_lt (iv n k * iv n k) (show 0 < P25 by omega); omega
    · have := Nat.mod_lt (iv n k * iv n k % P25 * n) (show 0 < P25 by omega); omega
theorem iv_ex (n : Nat) : ∀ k, iv n k % P25 = n ^ ex k % P25
  | 0 => by simp [iv, ex]
  | k + 1 => by
    have ih := iv_ex n k
    have e2 : iv n k * iv n k % P25 = n ^ (2 * ex k) % P25 := by rw [Nat.mul_mod, ih, ← Nat.mul_mod, Nat.two_mul, Nat.pow_add]
    unfold iv ex
    split
    · rw [Nat.mod_mod, e2]
    · rw [Nat.mod_mod, e2, Nat.pow_succ, Nat.mul_mod, Nat.mod_mod, ← Nat.mul_mod]
theorem ex_255 : ex 255 = P25 - 2 := by decide +kernel
theorem iv_255 (n : Nat) : iv n 255 = n ^ (P25 - 2) % P25 := by
  have h := iv_ex n 255
  rw [ex_255] at h
  rw [← h]
  have : iv n 255 = iv n 254 * iv n 254 % P25 * n % P25 := by
    show (if 254 = 252 ∨ 254 = 250 then _ else _) = _
    rw [if_neg (by decide)]
  rw [this, Nat.mod_mod]
attribute [local irreducible] Calls
set_option maxHeartbeats 4000000 in
set_option maxRecDepth 100000 in
theorem inverse_any (n : Nat) (w : World) (hn : n < MM ^ 4) :
    Calls Try.prog 57 #[.agg (aggN n)] w fun e w' => e = .returned (.agg (aggN (n ^ (P25 - 2) % P25))) ∧ Below w.heap.size w w' := by
  have hu65 := Try.underlying67
  have hiv := iv_255 n
  generalize n ^ (P25 - 2) % P25 = R at *
  subst hiv
  unfold aggN
  go_enter Try.func57, Try.ntmps57
  go_wp2
  go_loopw [7] (fun i wr => ∃ k : Nat, k ≤ 255 ∧ i = .int .i64 k ∧ Own w [(w.heap.size + 2, .cells (aggN (iv n k)) 67 (0, 0)), (w.heap.size + 1, .cells zero4 67 (0, 0)), (w.heap.size, .cells (aggN n) 67 (0, 0))] wr) (fun i _ => (255 - intOf i).toNat)
  case atStart =>
    have e1 : aggN (iv n 0) = #[.int .u64 1, .int .u64 0, .int .u64 0, .int .u64 0] := by kernel_rfl
    rw [← e1]
    exact ⟨0, by omega, rfl, (((Own.start w).alloc (.cells (aggN n) 67)).alloc' (.cells zero4 67) (g := w.heap.size + 1) (by simp)).alloc' (.cells (aggN (iv n 0)) 67) (g := w.heap.size + 2) (by simp)⟩
  case round =>
    obtain ⟨k, hk, rfl, HO⟩ := hrel
    by_cases hlt : k < 255
    · have hlti : (k : Int) < 255 := by omega
      have hki : (0 : Int) ≤ (k : Int) := by omega
      have c0 := HO.cell 0 rfl
      have f0 := HO.frozen 0 rfl
      unfold aggN at c0
      have hlv := iv_lt n k
      have HT1 := Lib.hid (fun W => times_any (iv n k) (iv n k) W hlv hlv)
      have hl2 : iv n k * iv n k % P25 < MM ^ 4 := by have h4 := MM4; have hp := P25_pos; have := Nat.mod_lt (iv n k * iv n k) (show 0 < P25 by omega); omega
      have HT2 := Lib.hid (fun W => times_any (iv n k * iv n k % P25) n W hl2 hn)
      have Hs : Aside0 (iv n (k + 1) = if k = 252 ∨ k = 250 then iv n k * iv n k % P25 else iv n k * iv n k % P25 * n % P25) := ⟨rfl⟩
      clear hlv hl2
      generalize iv n k * iv n k % P25 = v2 at *
      generalize iv n k = v at *
      clear f0
      have f0 := HO.frozen 0 rfl
      by_cases hb : k = 252 ∨ k = 250
      · rw [if_pos hb] at Hs
        have hb1 : ((254 : Int) - (k : Int) != 2 && (254 : Int) - (k : Int) != 4) = false := by rcases hb with rfl | rfl <;> rfl
        rcases hb with rfl | rfl
        all_goals
          clear HT2 hb1
          go_wp2_with (go_at_call 65; refine (HT1.out _).mono ?_; rintro e w1 ⟨rfl, hd⟩; replace HO := HO.up hd; clear c0 f0; have c0 := HO.cell 0 rfl; have f0 := HO.frozen 0 rfl; (try clear cN); have cN := HO.cell 2 rfl; unfold aggN at *)
          go_roundw
          case measure => simp [intOf]
          case rel =>
            first | refine ⟨252 + 1, by omega, rfl, ?_⟩ | refine ⟨250 + 1, by omega, rfl, ?_⟩
            rw [Hs.out]
            exact (((HO.set 0 rfl 0 _).set 0 rfl 1 _).set 0 rfl 2 _).set 0 rfl 3 _
      · rw [if_neg hb] at Hs
        have hb1 : ((254 : Int) - (k : Int) != 2) = true := by rw [bne_iff_ne]; omega
        have hb2 : ((254 : Int) - (k : Int) != 4) = true := by rw [bne_iff_ne]; omega
        clear hb
        have tok : True := trivial
        go_wp2_with (first | (go_at_call 65; have _t := tok; clear _t; refine (HT1.out _).mono ?_; rintro e w1 ⟨rfl, hd⟩; replace HO := HO.up hd; clear c0 f0 tok; have c0 := HO.cell 0 rfl; have f0 := HO.frozen 0 rfl; (try clear cN); have cN := HO.cell 2 rfl; unfold aggN at *) | (go_at_call 65; refine (HT2.out _).mono ?_; rintro e w1 ⟨rfl, hd⟩; replace HO := ((((HO.set 0 rfl 0 (.int .u64 (wd v2 0 : Nat))).set 0 rfl 1 (.int .u64 (wd v2 1 : Nat))).set 0 rfl 2 (.int .u64 (wd v2 2 : Nat))).set 0 rfl 3 (.int .u64 (wd v2 3 : Nat))).up hd; clear c0 f0 cN; have c0 : ∀ j, w1.cell? ⟨w.heap.size + 2, j, none⟩ = (aggN v2)[j]? := HO.cell 0 rfl; have f0 := HO.frozen 0 rfl; unfold aggN at *))
        go_roundw
        case measure => simp [intOf]; omega
        case rel =>
          refine ⟨k + 1, by omega, by go_num, ?_⟩
          rw [Hs.out]
          exact (((HO.set 0 rfl 0 _).set 0 rfl 1 _).set 0 rfl 2 _).set 0 rfl 3 _
    · obtain rfl : k = 255 := by omega
      have c0 := HO.cell 0 rfl
      have c1 := HO.cell 1 rfl
      have f1 := HO.frozen 1 rfl
      unfold aggN at c0
      unfold zero4 at c1
      go_wp2
      exact bodyPost_ret (v := .agg (aggN (iv n 255))) (by simp [results, Try.results57, go_sem, aggN, *]) rfl ⟨rfl, ((((HO.set 1 rfl 0 _).set 1 rfl 1 _).set 1 rfl 2 _).set 1 rfl 3 _).below⟩
end Go.Proofs.Ytdmpnogjpgoaaaa

import Derived.Test.YtnkfdpkjphbheaaWireP
import Derived.Test.YtnkfdpkjphbheaaProg
import Derived.Deep.RegionHeld3
import Derived.Deep.QuietTactic
import Derived.BigQuiet
namespace Go.Proofs.Ytnkfdpkjphbheaa
open Go.RowKit Go.Proofs.YtnkfdpkjphbheaaW.PrintWords

set_option maxHeartbeats 1000000 in
theorem RNumber_any (n : Nat) (w : World) (h : n < 18446744073709551616) :
    Calls Try.prog 25 #[.int .u64 n] w fun e w' => e = .returned (.string (numS n)) ∧ Below w.heap.size w w' := by
  have hm : numLen n ≤ 8 := by have := Lib.bitLen_le n 64 (by omega) h; unfold numLen; omega
  go_enter Try.func25, Try.ntmps25
  go_wp2
  go_loopw [0, 3] (fun v0 v3 wr => ∃ k : Nat, k ≤ numLen n ∧ v0 = .int .u64 ((n / 256 ^ k : Nat) : Int) ∧ v3 = .string ⟨(beL k n).toArray⟩ ∧ Aside0 (Below w.heap.size w wr)) (fun v0 _ _ => (intOf v0).toNat)
  case atStart => exact ⟨0, by omega, by simp, rfl, ⟨Below.refl _ _⟩⟩
  case round =>
    obtain ⟨k, hk, rfl, rfl, HB⟩ := hrel
    by_cases hlt : k < numLen n
    · have h0 := (lt_numLen n k h).1 hlt
      generalize hq : n / 256 ^ k = q at h0 ⊢
      have hq1 : q ≤ n := by rw [← hq]; exact Nat.div_le_self _ _
      have HQ := Lib.hid hq
      clear hq
      have hcv := conv_lit1 Try.underlying56 Try.underlying5 Try.underlying9 wr ((q : Int) % 256)
      have hb : (beL k n).length ≤ 8 := by rw [beL_length]; omega
      go_wp2
      refine ⟨⟨k + 1, by omega, ?_, ?_, ⟨below_alloc HB.out _⟩⟩, ?_⟩
      · rw [Nat.pow_succ, ← Nat.div_div_eq_div_mul, HQ.out]; rfl
      · rw [show (⟨#[UInt8.ofNat (q % 256)]⟩ : ByteArray) = ⟨[UInt8.ofNat (q % 256)].toArray⟩ from rfl, mk_append, beL_front, HQ.out]; rfl
      · simp [intOf]; omega
    · have e : k = numLen n := by omega
      subst e
      have h0 : n / 256 ^ numLen n = 0 := Nat.eq_zero_of_not_pos (mt (lt_numLen n (numLen n) h).2 (Nat.lt_irrefl _))
      rw [h0]
      clear h0
      have hcv := conv_lit1 Try.underlying56 Try.underlying5 Try.underlying9 wr ((beL (numLen n) n).length : Int)
      have hb : (beL (numLen n) n).length ≤ 8 := by rw [beL_length]; omega
      have hb2 := Lib.hid (beL_length (numLen n) n)
      go_wp2
      go_ret
      refine ⟨ret_congr ?_, below_alloc HB.out _⟩
      show Value.string ((⟨[UInt8.ofNat ((beL (numLen n) n).length : Int).toNat].toArray⟩ : ByteArray) ++ ⟨(beL (numLen n) n).toArray⟩) = _
      rw [mk_append, hb2.out]; rfl
set_option maxHeartbeats 1000000 in
theorem ROne_any (p : PartD) (w : World) (h : p.n < 18446744073709551616) (hl : longP p = false) :
    Calls Try.prog 28 #[.agg #[.bool p.text, .int .u64 p.n, .string p.s]] w fun e w' => e = .returned (.string (oneS p)) ∧ Below w.heap.size w w' := by
  obtain ⟨t, n, s⟩ := p
  dsimp only at h ⊢
  cases t with
  | false =>
    have hv : oneS ⟨false, n, s⟩ = numS n := rfl
    rw [hv]
    clear hv
    go_enter Try.func28, Try.ntmps28
    go_wp2_with (first | (go_at_call 25; refine (RNumber_any n _ h).mono ?_; rintro e w1 ⟨rfl, hb1⟩))
    go_ret
    exact ⟨rfl, below_step (below_alloc (Below.refl _ _) _) hb1⟩
  | true =>
    have hv : oneS ⟨true, n, s⟩ = numS s.size ++ s := rfl
    rw [hv]
    clear hv
    have hs : s.size ≤ 1024 := by simpa [longP] using hl
    have h4 := numS_size s.size (by omega)
    go_enter Try.func28, Try.ntmps28
    go_wp2
    have hw1 : IntKind.u64.wrap (s.size : Int) = s.size := IntWalk.u64_in _ (by omega)
    have hadd : ¬ (9223372036854775807 < (numS s.size).size + s.size) := by omega
    have hB := Lib.hid (below_alloc (Below.refl w.heap.size w) (.cells #[.bool true, .int .u64 n, .string s] 51))
    have c2 : (w.alloc (.cells #[.bool true, .int .u64 n, .string s] 51)).cell? ⟨w.heap.size, 2, none⟩ = some (.string s) := by go_simp
    have hlt : w.heap.size < (w.alloc (.cells #[.bool true, .int .u64 n, .string s] 51)).heap.size := by simp
    generalize w.alloc (.cells #[.bool true, .int .u64 n, .string s] 51) = W at hB c2 hlt ⊢
    go_region_held3 (fun w' => w'.cell? ⟨w.heap.size, 2, none⟩ = some (.string s))
      (first | go_keep | (exact (hb1.cell (p := ⟨w.heap.size, 2, none⟩) (by simpa using hlt)).trans (by go_simp)))
      ((go_at_call 25; refine (RNumber_any s.size _ (by omega)).mono ?_; rintro e w1 ⟨rfl, hb1⟩))
    go_wp2
    go_ret
    exact ⟨rfl, (hB.out.trans ((Below.refl _ _).drew)).trans (hb1.mono (Nat.le_of_lt (by simpa using hlt)))⟩
set_option maxHeartbeats 1000000 in
theorem RLong_any (A : Option Addr) (n c : Nat) (ps : List PartD) (w : World) (hc : Kd.C kP w A n ps) :
    Calls Try.prog 29 #[.slice A n c] w fun e w' => e = .returned (.bool (ps.any longP)) ∧ Below w.heap.size w w' := by
  have hm : n ≤ 9223372036854775807 := hc.2.1
  have HC := Lib.hid hc
  have HL := Lib.hid hc.1
  clear hc
  go_enter Try.func29, Try.ntmps29
  go_wp2
  go_loopw [7] (fun i wr => ∃ k : Nat, k ≤ n ∧ i = .int .i64 k ∧ Aside0 (∀ p ∈ ps.take k, longP p = false) ∧ Aside0 (Below w.heap.size w wr)) (fun i _ => (n - intOf i).toNat)
  case atStart => exact ⟨0, by omega, rfl, ⟨by simp⟩, ⟨Below.refl _ _⟩⟩
  case round =>
    obtain ⟨k, hk, rfl, HN, HB⟩ := hrel
    by_cases hlt : k < n
    · obtain ⟨ad, p, rfl, hp, c0, c1, c2⟩ := kP_at HC.out k hlt
      replace c0 := pw_cell_below HB.out c0
      replace c1 := pw_cell_below HB.out c1
      replace c2 := pw_cell_below HB.out c2
      have HP := Lib.hid hp
      clear hp
      by_cases ht : p.text = true
      · rw [ht] at c0
        by_cases hl : 1024 < p.s.size
        · have HV : Hid (ps.any longP = true) := List.any_eq_true.2 ⟨p, List.mem_of_getElem? HP.out, by simp [longP, ht, hl]⟩
          clear ht
          go_wp2
          go_ret
          exact ⟨ret_congr (by rw [HV.out]; rfl), below_alloc HB.out _⟩
        · have h3 := Lib.hid (show longP p = false by simp [longP, ht]; omega)
          clear ht
          have hl' : (p.s.size : Int) ≤ 1024 := by omega
          go_wp2
          exact ⟨⟨k + 1, by omega, by go_num, ⟨nolong_next HP.out HN.out h3.out⟩, ⟨below_alloc HB.out _⟩⟩, by simp [intOf]; omega⟩
      · have ht' : p.text = false := by simpa using ht
        have h3 := Lib.hid (show longP p = false by simp [longP, ht'])
        rw [ht'] at c0
        clear ht ht'
        go_wp2
        exact ⟨⟨k + 1, by omega, by go_num, ⟨nolong_next HP.out HN.out h3.out⟩, ⟨below_alloc HB.out _⟩⟩, by simp [intOf]; omega⟩
    · have e : k = n := by omega
      subst e
      rw [List.take_of_length_le (by rw [HL.out]; omega)] at HN
      have HV : Hid (ps.any longP = false) := by
        show _ = _
        rw [List.any_eq_false]; intro x hx; rw [HN.out x hx]; decide
      go_wp2
      go_ret
      exact ⟨ret_congr (by rw [HV.out]; rfl), HB.out⟩

set_option maxHeartbeats 1000000 in
theorem RPack_any (A : Option Addr) (n c : Nat) (ps : List PartD) (w : World) (hc : Kd.C kP w A n ps) (hn : n ≤ 1000000) (hw : ∀ p ∈ ps, longP p = false ∧ p.n < 18446744073709551616) :
    Calls Try.prog 30 #[.slice A n c] w fun e w' => e = .returned (.string ⟨(packL ps).toArray⟩) ∧ Below w.heap.size w w' := by
  have HC := Lib.hid hc
  have HL := Lib.hid hc.1
  clear hc
  go_enter Try.func30, Try.ntmps30
  go_wp2
  go_loopw [3, 8] (fun v i wr => ∃ k : Nat, k ≤ n ∧ i = .int .i64 k ∧ v = .string ⟨(packL (ps.take k)).toArray⟩ ∧ Aside0 (Below w.heap.size w wr)) (fun _ i _ => (n - intOf i).toNat)
  case atStart => exact ⟨0, by omega, rfl, rfl, ⟨Below.refl _ _⟩⟩
  case round =>
    obtain ⟨k, hk, rfl, rfl, HB⟩ := hrel
    by_cases hlt : k < n
    · obtain ⟨ad, p, rfl, hp, c0, c1, c2⟩ := kP_at HC.out k hlt
      replace c0 := pw_cell_below HB.out c0
      replace c1 := pw_cell_below HB.out c1
      replace c2 := pw_cell_below HB.out c2
      have HP := Lib.hid hp
      obtain ⟨hl, hpn⟩ := hw p (List.mem_of_getElem? hp)
      have hlen := packL_len (ps.take k) (fun q hq => hw q (List.mem_of_mem_take hq))
      have hlk : (ps.take k).length ≤ k := List.length_take_le _ _
      have hb1 := oneL_len p hl hpn
      have hb2 : (oneS p).size ≤ 1033 := by rw [← oneS_len]; exact hb1
      have hb3 : (packL (ps.take k)).length ≤ 1033 * k := by omega
      have HLo := Lib.hid hl
      have HX : Hid ((⟨(packL (ps.take k)).toArray⟩ : ByteArray) ++ oneS p = ⟨(packL (ps.take (k + 1))).toArray⟩) := by
        show _ = _
        rw [packL_next HP.out]; apply ByteArray.ext; simp [oneS_data]
      clear hp hl hlen hlk hb1
      generalize hq : packL (ps.take k) = q at hb3 HX ⊢
      clear hq
      go_wp2_with (first | (go_at_call 28; refine (ROne_any p _ hpn HLo.out).mono ?_; rintro e w1 ⟨rfl, hb1⟩))
      exact ⟨⟨k + 1, by omega, by go_num, by rw [HX.out], ⟨below_step (below_alloc HB.out _) hb1⟩⟩, by simp [intOf]; omega⟩
    · have e : k = n := by omega
      subst e
      rw [List.take_of_length_le (by rw [HL.out]; omega)]
      go_wp2
      go_ret
      exact ⟨rfl, HB.out⟩

set_option maxHeartbeats 1000000 in
theorem RSame_any (A A' : Option Addr) (n c n' c' : Nat) (xs ys : List PartD) (w : World) (hc : Kd.C kP w A n xs) (hc' : Kd.C kP w A' n' ys):
    Calls Try.prog 27 #[.slice A n c, .slice A' n' c'] w fun e w' => e = .returned (.bool (xs.length == ys.length && (xs.zip ys).all fun p => likeP p.1 p.2)) ∧ Below w.heap.size w w' := by
  have hl := hc.1
  have hl' := hc'.1
  have hm : n ≤ 9223372036854775807 := hc.2.1
  by_cases hn : n = n'
  · obtain rfl := hn
    have h1 : ((n : Int) != n) = false := by simp
    have HC := Lib.hid hc
    have HC' := Lib.hid hc'
    have HL := Lib.hid hl
    have HL' := Lib.hid hl'
    clear hc hc' hl hl'
    go_enter Try.func27, Try.ntmps27
    go_wp2
    go_loopw [13] (fun i wr => ∃ k : Nat, k ≤ n ∧ i = .int .i64 k ∧ Aside0 (((xs.take k).zip (ys.take k)).all (fun p => likeP p.1 p.2) = true) ∧ Aside0 (Below w.heap.size w wr)) (fun i _ => (n - intOf i).toNat)
    case atStart => exact ⟨0, by omega, rfl, ⟨by simp⟩, ⟨Below.refl _ _⟩⟩
    case round =>
      obtain ⟨k, hk, rfl, HN, HB⟩ := hrel
      by_cases hlt : k < n
      · obtain ⟨ad, p, rfl, hp, c0, c1, c2⟩ := kP_at HC.out k hlt
        obtain ⟨ad', q, rfl, hq, d0, d1, d2⟩ := kP_at HC'.out k hlt
        replace c0 := pw_cell_below HB.out c0
        replace c1 := pw_cell_below HB.out c1
        replace c2 := pw_cell_below HB.out c2
        replace d0 := pw_cell_below HB.out d0
        replace d1 := pw_cell_below HB.out d1
        replace d2 := pw_cell_below HB.out d2
        have HP := Lib.hid hp
        have HQ := Lib.hid hq
        clear hp hq
        have hi : (k : Int) < n := by omega
        obtain ⟨t, pn, ps⟩ := p
        obtain ⟨t', qn, qs⟩ := q
        dsimp only at c0 c1 c2 d0 d1 d2
        have hall : likeP ⟨t, pn, ps⟩ ⟨t', qn, qs⟩ = false → ((xs.zip ys).all fun p => likeP p.1 p.2) = false := fun hL => by
          rw [List.all_eq_false]
          exact ⟨(⟨t, pn, ps⟩, ⟨t', qn, qs⟩), List.mem_of_getElem? (i := k) (by rw [List.getElem?_zip_eq_some]; exact ⟨HP.out, HQ.out⟩), by simp [hL]⟩
        have hall' : likeP ⟨t, pn, ps⟩ ⟨t', qn, qs⟩ = true → (((xs.take (k + 1)).zip (ys.take (k + 1))).all (fun p => likeP p.1 p.2) = true) := fun hL => by
          rw [zip_take HP.out HQ.out, HN.out, hL]; rfl
        have HA := Lib.hid hall
        have HA' := Lib.hid hall'
        clear hall hall' HP HQ HN
        cases t <;> cases t'
        · by_cases he : pn = qn
          · have hd : ((pn : Int) != qn) = false := by simp; omega
            have HA1 := Lib.hid (HA'.out (by simp [likeP, he]))
            clear he
            go_wp2_with fail
            go_quiet (fail)
            go_wp2
            exact ⟨⟨k + 1, by omega, by go_num, ⟨HA1.out⟩, ⟨pw_below_drewN HB.out _⟩⟩, by simp [intOf]; omega⟩
          · have hd : ((pn : Int) != qn) = true := by simp; omega
            have HA1 := Lib.hid (HA.out (by simp [likeP, he]))
            clear he
            go_wp2_with fail
            go_quiet (fail)
            go_wp2
            go_ret
            exact ⟨ret_congr (by rw [HA1.out, Bool.and_false]; rfl), pw_below_drewN HB.out _⟩
        · have HA1 := Lib.hid (HA.out (by simp [likeP]))
          go_wp2_with fail
          go_quiet (fail)
          go_wp2
          go_ret
          exact ⟨ret_congr (by rw [HA1.out, Bool.and_false]; rfl), pw_below_drewN HB.out _⟩
        · have HA1 := Lib.hid (HA.out (by simp [likeP]))
          go_wp2_with fail
          go_quiet (fail)
          go_wp2
          go_ret
          exact ⟨ret_congr (by rw [HA1.out, Bool.and_false]; rfl), pw_below_drewN HB.out _⟩
        · by_cases he : ps.toList = qs.toList
          · have hd : (ps.toList != qs.toList) = false := by simp [he]
            have hd2 : (ps.toList == qs.toList) = true := by simp [he]
            have HA1 := Lib.hid (HA'.out (by simp [likeP, he]))
            clear he
            go_wp2_with fail
            go_quiet (fail)
            go_wp2
            exact ⟨⟨k + 1, by omega, by go_num, ⟨HA1.out⟩, ⟨pw_below_drewN HB.out _⟩⟩, by simp [intOf]; omega⟩
          · have hd : (ps.toList != qs.toList) = true := by simp [he]
            have hd2 : (ps.toList == qs.toList) = false := by simp [he]
            have HA1 := Lib.hid (HA.out (by simp [likeP, he]))
            clear he
            go_wp2_with fail
            go_quiet (fail)
            go_wp2
            go_ret
            exact ⟨ret_congr (by rw [HA1.out, Bool.and_false]; rfl), pw_below_drewN HB.out _⟩
      · have e : k = n := by omega
        subst e
        go_wp2
        go_ret
        refine ⟨ret_congr ?_, HB.out⟩
        have h3 := HN.out
        rw [List.take_of_length_le (by rw [HL.out]; omega), List.take_of_length_le (by rw [HL'.out]; omega)] at h3
        rw [h3, HL.out, HL'.out]; simp
  · have h1 : ((n : Int) != n') = true := by simp; omega
    clear hc hc'
    go_enter Try.func27, Try.ntmps27
    go_wp2
    go_ret
    refine ⟨ret_congr ?_, Below.refl _ _⟩
    rw [hl, hl', show (n == n') = false by simpa using hn]; rfl
end Go.Proofs.Ytnkfdpkjphbheaa

import Derived.Test.YtfghjahmnjghgaaLen
import Derived.Test.YtfghjahmnjghgaaBld
import Derived.Test.YtfghjahmnjghgaaWireP
set_option linter.unusedSimpArgs false
set_option linter.unusedVariables false
namespace Go.Proofs.Ytfghjahmnjghgaa
open Go.RowKit Go.Proofs.YtfghjahmnjghgaaW.PrintWords

theorem info5 : (Try.prog.info? 5).map (fun i => (i.zero, i.size, i.bytes)) = some (some (.int .u8 0), 1, 1) := by kernel_rfl

theorem numB_next (n j : Nat) (hj : j < numLen n) : (numB n).take (j + 1 + 1) = (numB n).take (j + 1) ++ [(((n / 2 ^ (8 * (numLen n - 1 - j))) % 256 : Nat) : Int)] := by
  rw [List.take_succ_eq_append_getElem (by rw [numB_length]; omega)]
  congr 1
  simp [numB]

theorem shr_byte (n m j : Nat) : (n : Int) / 2 ^ (8 * (m - 1 - j)) % 256 = ((n / 2 ^ (8 * (m - 1 - j)) % 256 : Nat) : Int) := by simp

set_option maxHeartbeats 1000000 in
set_option maxRecDepth 100000 in
theorem Number_any (n : Nat) (w : World) (h1 : n < 18446744073709551616) :
    Calls Try.prog 40 #[.int .u64 n] w fun e w' => e = .returned (.string (numS n)) ∧ Below w.heap.size w w' := by
  have hm := numLen_le n h1
  have hb1 := Lib.bitLen_le n 64 (by omega) h1
  have Hm : Hid (((Lib.bitLen n : Int) + 7) / 8 = (numLen n : Int)) := by show (_ : Int) = _; unfold numLen; omega
  go_enter Try.func40, Try.ntmps40
  go_wp2_with (first | (go_at_call 54; refine (Try.bits_Len64 _ _ (by omega) (by omega)).mono ?_; rintro e w' ⟨rfl, rfl⟩; rw [Int.toNat_natCast]))
  simp only [Hm.out]
  have HB := Aside0.mk (Below.refl w'.heap.size w')
  go_loopw [4, 5] (fun v i wr => ∃ j : Nat, j ≤ numLen n ∧ i = .int .i64 ((numLen n : Int) - 1 - j) ∧ Aside0 (Kd.R (Kd.int .u8) 5 wr w'.heap.size (fun _ => True) v ((numB n).take (j + 1))) ∧ Aside0 (Below w'.heap.size w' wr)) (fun _ i _ => (intOf i + 1).toNat)
  case atStart =>
    refine ⟨0, by omega, by simp, ⟨?_⟩, ⟨below_alloc HB.out _⟩⟩
    exact R_new_lit w' _ 5 [(numLen n : Int)] (Nat.le_refl _) (by simp)
  case round =>
    obtain ⟨j, hj, rfl, HO, HB⟩ := hrel
    by_cases hlt : j < numLen n
    · have hx := Lib.hid (shr_byte n (numLen n) j)
      have hn := Lib.hid (numB_next n j hlt)
      have hl := Lib.hid (numB_length n)
      go_wp2_with (first | ((with_reducible refine gate_builtin (b := .append) rfl ?_); at_builtin; rw [hx.out]; refine app1 (Kd.int .u8) (.tmp 19) (.tmp 25) 63 5 (.int .u8 0) 1 rfl rfl Try.underlying63 info5 rfl (by decide) (by decide) _ _ _ _ rfl rfl rfl HO HB ?c1 ?_; (case c1 => rw [List.length_take, hl.out]; omega); intro v1 w1 HO1 HB1; rw [← hn.out] at HO1; clear HO HB))
      go_roundw
      case rel => exact ⟨j + 1, by omega, by go_num, HO1, HB1⟩
      case measure => simp [intOf]; omega
    · have e : j = numLen n := by omega
      subst e
      have hs := own_string (P := Try.prog) Try.underlying63 Try.underlying5 Try.underlying9 (Kd.own_of_R HO.out)
      rw [List.take_of_length_le (by rw [numB_length]; omega), numB_S] at hs
      go_wp2
      go_ret
      exact ⟨rfl, HB.out⟩

theorem numS_258 : (numS 258).toList = [2, 1, 2] := by decide +kernel
set_option maxHeartbeats 1000000 in
set_option maxRecDepth 100000 in
theorem Text_no (s : ByteArray) (w : World) (h : 1024 < s.size) :
    Calls Try.prog 41 #[.string s] w fun e w' => e = .returned (.tuple #[.string ⟨#[]⟩, .int .i64 2]) ∧ w = w' := by
  go_enter Try.func41, Try.ntmps41
  go_wp2
  go_ret2
  exact ⟨rfl, rfl⟩

set_option maxHeartbeats 1000000 in
set_option maxRecDepth 100000 in
theorem Text_yes (s : ByteArray) (w : World) (h : s.size ≤ 1024) :
    Calls Try.prog 41 #[.string s] w fun e w' => e = .returned (.tuple #[.string (numS s.size ++ s), .int .i64 0]) ∧ Below w.heap.size w w' := by
  have h4 := numS_size s.size (by omega)
  go_enter Try.func41, Try.ntmps41
  go_wp2_with (first | (go_at_call 40; refine (Number_any s.size w (by omega)).mono ?_; rintro e w' ⟨rfl, HB⟩))
  go_ret2
  exact ⟨rfl, HB⟩
set_option maxHeartbeats 1000000 in
set_option maxRecDepth 100000 in
theorem Pack_any (A : Option Addr) (n c : Nat) (ps : List PartD) (w : World) (hc : Kd.C kP w A n ps) (hn : n ≤ 1000000) (hw : ∀ p ∈ ps, p.n < 18446744073709551616) :
    Calls Try.prog 23 #[.slice A n c] w fun e w' => e = .returned (packV ps) ∧ Below w.heap.size w w' := by
  have hb := Lib.fresh_isBuilder 65 5 w
  have HC := Lib.hid hc
  have HL := Lib.hid hc.1
  clear hc
  go_enter Try.func23, Try.ntmps23
  go_wp2
  go_loopw [12] (fun i wr => ∃ k : Nat, k ≤ n ∧ i = .int .i64 k ∧ Aside0 (∀ p ∈ ps.take k, longP p = false) ∧ Aside0 (Lib.IsBuilder 65 5 w.heap.size w.heap.size (Lib.byteCells (packL (ps.take k))) wr) ∧ Aside0 (Below w.heap.size w wr)) (fun i _ => (n - intOf i).toNat)
  case atStart =>
    exact ⟨0, by omega, rfl, ⟨by simp⟩, ⟨by simpa [packL, Lib.byteCells] using hb⟩, ⟨below_alloc (Below.refl _ _) _⟩⟩
  case round =>
    clear hb
    obtain ⟨k, hk, rfl, HN, HI, HB⟩ := hrel
    by_cases hlt : k < n
    · obtain ⟨ad, p, rfl, hp, c0, c1, c2⟩ := kP_at HC.out k hlt
      replace c0 := pw_cell_below HB.out c0
      replace c1 := pw_cell_below HB.out c1
      replace c2 := pw_cell_below HB.out c2
      have hsz := HB.out.size
      have hpn := hw p (List.mem_of_getElem? hp)
      have hlen := packL_len (ps.take k) (fun q hq => ⟨HN.out q hq, hw q (List.mem_of_mem_take hq)⟩)
      have hlk : (ps.take k).length ≤ k := List.length_take_le _ _
      have hbk : (packL (ps.take k)).length ≤ 1033 * k := by omega
      clear hlen hlk
      have HP := Lib.hid hp
      clear hp
      by_cases ht : p.text = true
      · by_cases hl : 1024 < p.s.size
        · have HV : Hid (packV ps = .tuple #[.string ⟨#[]⟩, .int .i64 2]) := by
            show packV ps = _
            unfold packV
            rw [if_pos (List.any_eq_true.2 ⟨p, List.mem_of_getElem? HP.out, by simp [longP, ht, hl]⟩)]
          rw [ht] at c0
          go_wp2_with (first | (go_at_call 40; refine (Number_any p.n _ hpn).mono ?_; rintro e w1 ⟨rfl, hb1⟩; have hc1 := fun (b o) (h : b < wr.heap.size + 1) => hb1.cell (p := ⟨b, o, none⟩) (by simpa using h)) | (go_at_call 41; refine (Text_no p.s _ hl).mono ?_; rintro e w2 ⟨rfl, rfl⟩))
          go_ret2
          exact ⟨by rw [HV.out]; rfl, below_step (below_alloc HB.out _) hb1⟩
        · rw [ht] at c0
          have hl' : p.s.size ≤ 1024 := by omega
          have h1 := packL_next HP.out
          have h2 : oneL p = (numS p.s.size ++ p.s).data.toList := by simp [oneL, ht]
          have h3 : longP p = false := by simp [longP, ht]; omega
          have h4 := numS_size p.s.size (by omega)
          have h5 : (numS p.s.size ++ p.s).size ≤ 1033 := by rw [ByteArray.size_append]; omega
          have H1 : Hid (Lib.byteCells (packL (ps.take (k + 1))) = Lib.byteCells (packL (ps.take k)) ++ Lib.strCells (numS p.s.size ++ p.s)) := by
            show _ = _; rw [h1, h2]; simp [Lib.byteCells, Lib.strCells]
          have H3 := Lib.hid h3
          clear h1 h2 h3 ht
          go_wp2_with (first | (go_at_call 40; refine (Number_any p.n _ hpn).mono ?_; rintro e w1 ⟨rfl, hb1⟩; have hc1 := fun (b o) (h : b < wr.heap.size + 1) => hb1.cell (p := ⟨b, o, none⟩) (by simpa using h)) | (go_at_call 41; refine (Text_yes p.s _ hl').mono ?_; rintro e w2 ⟨rfl, hb2⟩; have hb3 := Lib.hid (below_step (below_step (below_alloc (Below.refl _ _) _) hb1) hb2)) | (go_at_call 42; refine (Try.Builder_WriteString w.heap.size w.heap.size _ _ _ (bld_below HI.out hb3.out) ?c1 ?c2).mono ?_; (case c1 => rw [Lib.byteCells_length]; omega); (case c2 => have := hb3.out.size; omega); rintro e w3 ⟨rfl, hb4, hb5⟩; rw [← H1.out] at hb4))
          go_roundw
          case rel =>
            refine ⟨k + 1, by omega, by go_num, ⟨?_⟩, ⟨.inr hb4⟩, ⟨(HB.out.trans (hb3.out.mono hsz)).trans hb5⟩⟩
            exact nolong_next HP.out HN.out H3.out
          case measure => simp [intOf]; omega
      · have ht' : p.text = false := by simpa using ht
        rw [ht'] at c0
        have h1 := packL_next HP.out
        have h2 : oneL p = (numS p.n).data.toList := by simp [oneL, ht']
        have H3 := Lib.hid (show longP p = false by simp [longP, ht'])
        have h5 := numS_size p.n hpn
        have H1 : Hid (Lib.byteCells (packL (ps.take (k + 1))) = Lib.byteCells (packL (ps.take k)) ++ Lib.strCells (numS p.n)) := by
          show _ = _; rw [h1, h2, cells_str]
        clear h1 h2 ht ht'
        go_wp2_with (first | (go_at_call 40; refine (Number_any p.n _ hpn).mono ?_; rintro e w1 ⟨rfl, hb1⟩; have hc1 := fun (b o) (h : b < wr.heap.size + 1) => hb1.cell (p := ⟨b, o, none⟩) (by simpa using h); have hb3 := Lib.hid (below_step (below_alloc (Below.refl _ _) _) hb1)) | (go_at_call 42; refine (Try.Builder_WriteString w.heap.size w.heap.size _ _ _ (bld_below HI.out hb3.out) ?c1 ?c2).mono ?_; (case c1 => rw [Lib.byteCells_length]; omega); (case c2 => have := hb3.out.size; omega); rintro e w3 ⟨rfl, hb4, hb5⟩; rw [← H1.out] at hb4))
        go_roundw
        case rel =>
          refine ⟨k + 1, by omega, by go_num, ⟨?_⟩, ⟨.inr hb4⟩, ⟨(HB.out.trans (hb3.out.mono hsz)).trans hb5⟩⟩
          exact nolong_next HP.out HN.out H3.out
        case measure => simp [intOf]; omega
    · have e : k = n := by omega
      subst e
      have hL := HL.out
      have HT : Hid (ps.take k = ps) := List.take_of_length_le (by omega)
      rw [HT.out] at HI HN
      have HV : Hid (packV ps = .tuple #[.string ⟨(packL ps).toArray⟩, .int .i64 0]) := by
        show packV ps = _
        unfold packV
        rw [if_neg]
        intro h
        obtain ⟨q, hq, hl⟩ := List.any_eq_true.1 h
        rw [HN.out q hq] at hl; cases hl
      clear hL
      go_wp2_with (first | (go_at_call 43; refine (Try.Builder_String_any w.heap.size w.heap.size _ _ HI.out HB.out.size).mono ?_; rintro e w3 ⟨rfl, hb4⟩))
      go_ret2
      exact ⟨by rw [HV.out]; rfl, HB.out.trans hb4⟩
end Go.Proofs.Ytfghjahmnjghgaa

import Derived.Test.YtpafocjmheemjaaDoorDh
import Derived.Test.YtpafocjmheemjaaDoorVb
set_option linter.unusedSimpArgs false
/- slices.Grow, slices.Concat of two rows of texts. -/
namespace Go.Proofs.YtpafocjmheemjaaDoor
open Go.RowKit Go.Proofs.YtpafocjmheemjaaDoorW.PrintWords
theorem R_shape {α : Type} {d : Kd α} {e base : Nat} {ok : Nat → Prop} {w : World} {v : Value} {xs : List α} (h : d.R e w base ok v xs) : ∃ A cap, v = .slice A xs.length cap := by
  obtain ⟨_, inner, ho, _⟩ := h
  rcases ho.2 with ⟨rfl, h0⟩ | ⟨g, cap, cur, rfl, hb, _⟩
  · exact ⟨none, 0, by rw [h0]⟩
  · exact ⟨_, cap, rfl⟩
attribute [local irreducible] Calls mixF
set_option maxHeartbeats 4000000 in
theorem Grow_nil (n : Nat) (hn : n ≤ 1000) (w : World) :
    Calls Tryd.prog 74 #[.slice none 0 0, .int .i64 (n : Int)] w fun e w' => ∃ v, e = .returned v ∧ Kd.string.R 9 w' w.heap.size (fun _ => True) v [] ∧ Below w.heap.size w w' := by
  by_cases h0 : n = 0
  · subst h0
    go_enter Tryd.func74, Tryd.ntmps74
    go_wp2
    go_ret
    exact ⟨_, rfl, Kd.R_nil _ _ _ _ _, Below.refl _ _⟩
  · have h1 : ¬ ((n : Int) < 0) := by omega
    have h2 : (n : Int) > 0 := by omega
    have hw : (n : Int) - 0 = (n : Int) := by omega
    go_enter Tryd.func74, Tryd.ntmps74
    go_wp2_with (at_builtin; refine Kd.R_append_zeros Kd.string w.heap.size rfl (.tmp 20) (.tmp 21) 53 3 9 (.string ⟨#[]⟩) 16 rfl Tryd.underlying53 Tryd.underlying3 info_strR rfl (by decide) (by decide) _ [] ⟨#[]⟩ _ (fun _ => True) rfl rfl rfl (fun _ _ => trivial) (Kd.R_nil _ _ _ _ _) (by omega) (Below.refl _ _) (Nat.le_refl _) (by simp; omega) ?_; intro v1 w1 hR hb _ _; obtain ⟨A, cap, hv⟩ := R_shape hR; rw [List.nil_append, Int.toNat_natCast, List.length_replicate] at hv; rw [List.nil_append, Int.toNat_natCast] at hR; subst hv)
    have hR2 := Kd.R_take (m := 0) hR (by omega)
    go_ret
    exact ⟨_, rfl, hR2, hb⟩
set_option maxHeartbeats 4000000 in
theorem Concat_two (g : Nat) (A : Option Addr) (n c : Nat) (xs : List ByteArray) (B : Option Addr) (m c2 : Nat) (ys : List ByteArray) (w : World) (h0 : w.cell? ⟨g, 0, none⟩ = some (.slice A n c)) (h1 : w.cell? ⟨g, 1, none⟩ = some (.slice B m c2))
    (hA : Kd.string.C w A n xs) (hB : Kd.string.C w B m ys) (hn : n ≤ 400) (hm : m ≤ 400) :
    Calls Tryd.prog 51 #[.slice (some ⟨g, 0, none⟩) 2 2] w fun e w' => (∃ v, e = .returned v ∧ Out Kd.string w' v (xs ++ ys)) ∧ Below w.heap.size w w' := by
  have hla := hA.1
  have hlb := hB.1
  have HA := Lib.hid (fun w1 (hg : Gr w w1) => Kd.C_below hA hg)
  have HB := Lib.hid (fun w1 (hg : Gr w w1) => Kd.C_below hB hg)
  have H0 := Lib.hid h0
  have H1 := Lib.hid h1
  have HLA := Lib.hid hla
  have HLB := Lib.hid hlb
  clear hA hB hla hlb
  have hs1 : (n : Int) + (m : Int) = ((n + m : Nat) : Int) := by omega
  have HS1 := Lib.hid hs1
  clear hs1
  go_enter Tryd.func51, Tryd.ntmps51
  go_wp2_with fail
  go_loop [3, 11] (fun c3 c11 => (c11 = .int .i64 0 ∧ c3 = .int .i64 0) ∨ (c11 = .int .i64 1 ∧ c3 = .int .i64 (n : Int)) ∨ (c11 = .int .i64 2 ∧ c3 = .int .i64 ((n + m : Nat) : Int))) (fun _ c11 => 2 - (intOf c11).toNat)
  case atStart => exact .inl ⟨rfl, rfl⟩
  case round =>
    rcases hrel with ⟨rfl, rfl⟩ | ⟨rfl, rfl⟩ | ⟨rfl, rfl⟩
    · have g1 : ¬ ((n : Int) < 0) := by omega
      go_wp2
      go_round
      case rel => exact .inr (.inl ⟨rfl, by go_num⟩)
      case measure => simp [intOf]
    · have g1 : ¬ ((n : Int) + (m : Int) < 0) := by omega
      go_wp2
      go_round
      case rel => exact .inr (.inr ⟨rfl, by rw [← HS1.out]⟩)
      case measure => simp [intOf]
    · have HG := Lib.hid (Grow_nil (n + m) (by omega) w)
      clear h0 h1
      go_wp2_with fail
      refine HG.out.mono ?_
      rintro e w1 ⟨v, rfl, hR, hb⟩
      have HR := Lib.hid hR
      have HBW := Lib.hid hb
      clear hR hb HG
      go_wp2_with fail
      go_loopw [6, 27] (fun c6 c27 wr => (c27 = .int .i64 0 ∧ Aside0 (Kd.string.R 9 wr w.heap.size (fun _ => True) c6 []) ∧ Aside0 (Below w.heap.size w wr)) ∨ (c27 = .int .i64 1 ∧ Aside0 (Kd.string.R 9 wr w.heap.size (fun _ => True) c6 xs) ∧ Aside0 (Below w.heap.size w wr)) ∨
        (c27 = .int .i64 2 ∧ Aside0 (Kd.string.R 9 wr w.heap.size (fun _ => True) c6 (xs ++ ys)) ∧ Aside0 (Below w.heap.size w wr))) (fun _ c27 _ => 2 - (intOf c27).toNat)
      case atStart => exact .inl ⟨rfl, ⟨HR.out⟩, ⟨HBW.out⟩⟩
      case round =>
        clear HR HBW
        rcases hrel with ⟨rfl, hR, hb⟩ | ⟨rfl, hR, hb⟩ | ⟨rfl, hR, hb⟩
        · have h0 := pw_cell_below hb.out H0.out
          go_wp2_with (at_builtin; refine app_rows Kd.string (w0 := w) (.tmp 31) (.tmp 32) 53 9 (.string ⟨#[]⟩) 16 rfl rfl Tryd.underlying53 info_strR rfl (by decide) (by decide) (fun _ _ h => h) _ [] xs A n c rfl rfl hR (HA.out _ hb.out) hb (by simp; omega) ?_; intro v1 w2 hR2 hb2 _)
          go_roundw
          case rel => exact .inr (.inl ⟨rfl, hR2, hb2⟩)
          case measure => simp [intOf]
        · have h1 := pw_cell_below hb.out H1.out
          go_wp2_with (at_builtin; refine app_rows Kd.string (w0 := w) (.tmp 31) (.tmp 32) 53 9 (.string ⟨#[]⟩) 16 rfl rfl Tryd.underlying53 info_strR rfl (by decide) (by decide) (fun _ _ h => h) _ xs ys B m c2 rfl rfl hR (HB.out _ hb.out) hb (by have := HLA.out; omega) ?_; intro v1 w2 hR2 hb2 _)
          go_roundw
          case rel => exact .inr (.inr ⟨rfl, hR2, hb2⟩)
          case measure => simp [intOf]
        · go_wp2
          go_ret
          exact ⟨⟨_, rfl, R_OutC hR.out⟩, hb.out⟩
end Go.Proofs.YtpafocjmheemjaaDoor

set_option linter.unusedSimpArgs false
/- LAYER 10: ChainGoes. -/
namespace Go.Proofs.YtpafocjmheemjaaDoor
open Go.RowKit Go.Proofs.YtpafocjmheemjaaDoorW.PrintWords
theorem chF_add (c : ByteArray) (a b : Nat) : chF (chF c a) b = chF c (a + b) := by
  induction b with
  | zero => rfl
  | succ b ih => show stN (chF (chF c a) b) = stN (chF c (a + b)); rw [ih]
theorem keysL_add (c : ByteArray) (a b : Nat) : keysL c a ++ keysL (chF c a) b = keysL c (a + b) := by
  induction b with
  | zero => simp [keysL]
  | succ b ih => rw [keysL_succ, ← Nat.add_assoc, keysL_succ, ← List.append_assoc, ih, chF_add]
theorem modN7 (i : Int) (M : Nat) (hM : 0 < M) : ∃ (t : Int) (q : Nat), Int.tmod i (M : Int) = t ∧ -(M : Int) ≤ t ∧ t ≤ M ∧ q < M ∧ (t + (M : Int)) % (M : Int) = (q : Int) ∧ Int.tmod (t + (M : Int)) (M : Int) = (q : Int) := by
  obtain ⟨t, h1, h2, h3, q, h4, h5, h6⟩ := modQ i (M - 1)
  have e : ((M - 1 : Nat) : Int) + 1 = (M : Int) := by omega
  rw [e] at h1
  rw [show t + ((M - 1 : Nat) : Int) + 1 = t + (M : Int) by omega, e] at h5 h6
  exact ⟨t, q, h1, by omega, by omega, by omega, h5, h6⟩
attribute [local irreducible] Calls mixF
set_option maxHeartbeats 8000000 in
set_option maxRecDepth 100000 in
theorem ChainGoes_no (c0 : ByteArray) (a0 b0 : Int) (W : World) (hc : (headB c0 40).size ≠ 32) (hK : KeysAt W) :
    Calls Tryd.prog 12 #[.string c0, .int .i64 a0, .int .i64 b0] W fun e W' => e = .returned (.bool true) ∧ Below W.heap.size W W' := by
  have HC1 := Lib.hid (cut10 c0)
  generalize headB c0 40 = c at *
  have HAl := Lib.hid (fun w1 (hg : Gr W w1) => alive10 w1 (hK.up hg))
  have HR := Lib.hid (fun (m : Int) w1 => Run_no c m (fun h => hc h.1) w1)
  have e1 : ((c.size : Int) != 32) = true := by rw [bne_iff_ne]; omega
  have HO := Own.start W
  clear hK hc
  go_enter Tryd.func12, Tryd.ntmps12
  go_wp2_with fail
  refine (HC1.out _).mono ?_
  rintro e w3 ⟨rfl, hb⟩
  replace HO := HO.up hb
  clear hb
  go_wp2_with fail
  refine (HR.out _ _).mono ?_
  rintro e w3 ⟨rfl, hb⟩
  replace HO := HO.up hb
  clear hb
  go_wp2_with fail
  refine (HAl.out _ HO.below).mono ?_
  rintro e w3 ⟨rfl, hb⟩
  replace HO := HO.up hb
  clear hb
  go_wp2
  go_ret
  exact ⟨rfl, HO.below⟩
set_option maxHeartbeats 8000000 in
set_option maxRecDepth 100000 in
theorem ChainGoes_ok (c0 : ByteArray) (a0 b0 : Int) (W : World) (hc : (headB c0 40).size = 32) (hK : KeysAt W) :
    Calls Tryd.prog 12 #[.string c0, .int .i64 a0, .int .i64 b0] W fun e W' => e = .returned (.bool true) ∧ Below W.heap.size W W' := by
  have HC1 := Lib.hid (cut10 c0)
  generalize headB c0 40 = c at *
  obtain ⟨t, a, ht1, ht2, ht3, ha, ha1, ha2⟩ : ∃ (t : Int) (q : Nat), Int.tmod a0 9 = t ∧ -9 ≤ t ∧ t ≤ 9 ∧ q < 9 ∧ (t + 9) % 9 = (q : Int) ∧ Int.tmod (t + 9) 9 = (q : Int) := modN7 a0 9 (by decide)
  obtain ⟨t', b, ht1', ht2', ht3', hq, hq1, hq2⟩ : ∃ (t : Int) (q : Nat), Int.tmod b0 9 = t ∧ -9 ≤ t ∧ t ≤ 9 ∧ q < 9 ∧ (t + 9) % 9 = (q : Int) ∧ Int.tmod (t + 9) 9 = (q : Int) := modN7 b0 9 (by decide)
  have HAl := Lib.hid (fun w1 (hg : Gr W w1) => alive10 w1 (hK.up hg))
  have HR1 := Lib.hid (fun w1 (hg : Gr W w1) => Run_ok c a hc (by omega) w1 (hK.up hg))
  have HR2 := fun w1 (hg : Gr W w1) => Run_ok (chF c a) b (chF_size c hc a) (by omega) w1 (hK.up hg)
  have HR3 := fun w1 (hg : Gr W w1) => Run_ok c (a + b) hc (by omega) w1 (hK.up hg)
  have HR4 := fun w1 (hg : Gr W w1) => Run_ok c 1 hc (by omega) w1 (hK.up hg)
  have HS := fun w1 (hg : Gr W w1) => Step_yes c w1 hc (hK.up hg)
  rw [chF_add] at HR2
  rw [show chF c 1 = stN c from rfl, show keysL c 1 = [stK c] from rfl] at HR4
  have hkk := keysL_add c a b
  rw [← hkk] at HR3
  rw [show ((a + b : Nat) : Int) = (a : Int) + (b : Int) by omega] at HR3
  have hla := keysL_len c a
  have hlb := keysL_len (chF c a) b
  have HO := Own.start W
  have e1 : ((c.size : Int) != 32) = false := by rw [hc]; rfl
  clear hK hc hkk
  generalize keysL (chF c a) b = kb at *
  generalize keysL c a = ka at *
  generalize chF c (a + b) = z at *
  generalize chF c a = y at *
  generalize stN c = u at *
  generalize stK c = k1 at *
  have HR2 := Lib.hid HR2
  have HR3 := Lib.hid HR3
  have HR4 := Lib.hid HR4
  have HS := Lib.hid HS
  have HLA := Lib.hid hla
  have HLB := Lib.hid hlb
  clear hla hlb
  have ez : (z.toList == z.toList) = true := by simp
  have eu : (u.toList == u.toList) = true := by simp
  have ek : (k1.toList == k1.toList) = true := by simp
  go_enter Tryd.func12, Tryd.ntmps12
  go_wp2_with fail
  refine (HC1.out _).mono ?_
  rintro e w3 ⟨rfl, hb⟩
  replace HO := HO.up hb
  clear hb
  go_wp2_with fail
  refine (HR1.out _ HO.below).mono ?_
  rintro e w4 ⟨⟨v, rfl, A, cA, rfl, hl1, hc1, hC1⟩, hb⟩
  replace HO := HO.up hb
  have HCA := Lib.hid hC1
  clear hb hC1 HR1
  go_wp2_with fail
  refine (HR2.out _ HO.below).mono ?_
  rintro e w5 ⟨⟨v, rfl, B, cB, rfl, hl2, hc2, hC2⟩, hb⟩
  replace HO := HO.up hb
  replace HCA := Lib.hid (Kd.C_below HCA.out hb)
  have HCB := Lib.hid hC2
  clear hb hC2 HR2
  go_wp2_with fail
  refine (HR3.out _ HO.below).mono ?_
  rintro e w6 ⟨⟨v, rfl, C, cC, rfl, hl3, hc3, hC3⟩, hb⟩
  replace HO := HO.up hb
  replace HCA := Lib.hid (Kd.C_below HCA.out hb)
  replace HCB := Lib.hid (Kd.C_below HCB.out hb)
  have HCC := Lib.hid hC3
  clear hb hC3 HR3
  go_wp2_with fail
  refine (HS.out _ HO.below).mono ?_
  rintro e w7 ⟨rfl, hb⟩
  replace HO := HO.up hb
  replace HCA := Lib.hid (Kd.C_below HCA.out hb)
  replace HCB := Lib.hid (Kd.C_below HCB.out hb)
  replace HCC := Lib.hid (Kd.C_below HCC.out hb)
  clear hb HS
  go_wp2_with fail
  refine (HR4.out _ HO.below).mono ?_
  rintro e w8 ⟨⟨v, rfl, D, cD, rfl, hl4, hc4, hC4⟩, hb⟩
  replace HO := HO.up hb
  replace HCA := Lib.hid (Kd.C_below HCA.out hb)
  replace HCB := Lib.hid (Kd.C_below HCB.out hb)
  replace HCC := Lib.hid (Kd.C_below HCC.out hb)
  have HCD := Lib.hid hC4
  clear hb hC4 HR4
  go_wp2_with fail
  refine (HAl.out _ HO.below).mono ?_
  rintro e w9 ⟨rfl, hb⟩
  replace HO := HO.up hb
  replace HCA := Lib.hid (Kd.C_below HCA.out hb)
  replace HCB := Lib.hid (Kd.C_below HCB.out hb)
  replace HCC := Lib.hid (Kd.C_below HCC.out hb)
  replace HCD := Lib.hid (Kd.C_below HCD.out hb)
  clear hb HAl
  go_wp2_with fail
  have HB0 := below_alloc (Below.refl w9.heap.size w9) (.cells #[.slice A ka.length cA, .slice B kb.length cB] 53)
  have hnew := heap_alloc_new w9 (.cells #[.slice A ka.length cA, .slice B kb.length cB] 53)
  refine (Concat_two w9.heap.size A ka.length cA ka B kb.length cB kb _ (blk_cell hnew 0) (blk_cell hnew 1) (Kd.C_below HCA.out HB0) (Kd.C_below HCB.out HB0) (by rw [HLA.out]; omega) (by rw [HLB.out]; omega)).mono ?_
  rintro e w10 ⟨⟨v, rfl, E, cE, rfl, hl5, hc5, hC5⟩, hb⟩
  have hb2 := below_step HB0 hb
  replace HO := HO.up hb2
  replace HCC := Lib.hid (Kd.C_below HCC.out hb2)
  replace HCD := Lib.hid (Kd.C_below HCD.out hb2)
  have HCE := Lib.hid hC5
  clear hb hb2 hnew HB0 hC5 HCA HCB
  have hlen : (ka ++ kb).length ≤ 40 := by rw [List.length_append, HLA.out, HLB.out]; omega
  have el : ((ka.length : Int) == (a : Int)) = true := by rw [HLA.out, beq_iff_eq]
  go_wp2_with fail
  have hT := Texts_any E C cE cC (ka ++ kb).length (ka ++ kb).length (ka ++ kb) (ka ++ kb) w10 HCE.out HCC.out (by omega)
  rw [decide_eq_true rfl, List.length_append] at hT
  refine hT.mono ?_
  rintro e w11 ⟨rfl, hb⟩
  replace HO := HO.up hb
  obtain ⟨bk, of, rfl, hcd, _⟩ := C_plain (Kd.C_below HCD.out hb) (Nat.succ_pos _)
  have hcd0 : w11.cell? ⟨bk, of, none⟩ = some (.string k1) := hcd 0 k1 rfl
  clear hb hT hcd
  go_wp2
  go_ret
  exact ⟨rfl, HO.below⟩
theorem ChainGoes_walk (c0 : ByteArray) (a0 b0 : Int) (W : World) (hK : KeysAt W) :
    Calls Tryd.prog 12 #[.string c0, .int .i64 a0, .int .i64 b0] W fun e W' => e = .returned (.bool true) ∧ Below W.heap.size W W' := by
  by_cases hc : (headB c0 40).size = 32
  · exact ChainGoes_ok c0 a0 b0 W hc hK
  · exact ChainGoes_no c0 a0 b0 W hc hK
end Go.Proofs.YtpafocjmheemjaaDoor

import Derived.Test.YtfghjahmnjghgaaDe
import Derived.Test.YtfghjahmnjghgaaDl
import Derived.Test.YtfghjahmnjghgaaDa
import Derived.Lib.Strings
import Derived.Lib.Slices
import Derived.Lib.Walk
import Derived.Test.YtfghjahmnjghgaaDd
set_option linter.unusedSimpArgs false
set_option linter.unusedVariables false
/- LAYER 14: RevealTakes. -/
namespace Go.Proofs.Ytfghjahmnjghgaa
open Go.RowKit Go.Proofs.YtfghjahmnjghgaaW.PrintWords
attribute [local irreducible] Calls
set_option maxHeartbeats 8000000 in
set_option maxRecDepth 100000 in
theorem RT_yes_f (ow pe ro se re : ByteArray) (st gt pv : Nat) (kept : List Sk.KeptD) (used ks : List ByteArray) (KP : Option Addr) (kn kc : Nat) (U : Option Addr) (un uc : Nat) (A : Option Addr) (n cp : Nat) (mo : Nat) (a b c : Nat) (W : World)
    (hK : Kd.C Sk.kK W KP kn kept) (hkc : kn ≤ kc) (hU : Kd.string.C W U un used) (huc : un ≤ uc) (hA : Kd.string.C W A n ks) (hc : n ≤ cp)
    (hs : rightS ⟨ow, pe, ro, se, re, st, gt, pv, kept.take 22, used.take 42⟩ = true) (hf : rightF (keyF a b c (ks.take 34)) = true) (hm2 : mo ≤ 32) :
    Calls Try.prog 4 #[.agg #[.string ow, .string pe, .string ro, .string se, .string re, .int .u64 (st : Int), .int .u64 (gt : Int), .int .u64 (pv : Int), .slice KP kn kc, .slice U un uc], .int .i64 (mo : Int), .int .u64 (a : Int), .int .u64 (b : Int), .int .u64 (c : Int), .slice A n cp] W fun e W' => e = .returned (.bool true) ∧ Below W.heap.size W W' := by
  have hK' := take_G (k := 22) hK
  have hU' := take_G (k := 42) hU
  have hA' := take_G (k := 34) hA
  have HMK := Lib.hid (min_len (k := 22) hK.1)
  have HMU := Lib.hid (min_len (k := 42) hU.1)
  have hkl : (kept.take 22).length ≤ kc := by rw [List.length_take]; have := hK.1; omega
  have hul : (used.take 42).length ≤ uc := by rw [List.length_take]; have := hU.1; omega
  have hal : (ks.take 34).length ≤ cp := by rw [List.length_take]; have := hA.1; omega
  have hk1 : (kept.take 22).length ≤ 1000 := by rw [List.length_take]; omega
  have hu1 : (used.take 42).length ≤ 1000000 := by rw [List.length_take]; omega
  have ha1 : (ks.take 34).length ≤ 1000000 := by rw [List.length_take]; omega
  have hfew := few14 A n cp W hc
  have HF := Lib.hid (fun w1 => up_same (few14 A n cp w1 hc))
  rw [show min n 34 = (ks.take 34).length by rw [List.length_take]; have := hA.1; omega] at HF
  have HRS := Lib.hid (fun w1 (hg : Below W.heap.size W w1) => show Calls Try.prog 19 #[.agg #[.string ow, .string pe, .string ro, .string se, .string re, .int .u64 (st : Int), .int .u64 (gt : Int), .int .u64 (pv : Int), .slice KP (kept.take 22).length kc, .slice U (used.take 42).length uc]] w1 (fun e w' => e = .returned (.bool true) ∧ Below w1.heap.size w1 w') from hs ▸ RSRight_any ⟨ow, pe, ro, se, re, st, gt, pv, kept.take 22, used.take 42⟩ KP kc U uc w1 (Kd.C_below hK' hg) hkl hk1 (Kd.C_below hU' hg) hul hu1)
  have HAl := Lib.hid (fun w1 => alive14 w1)
  have HT := Lib.hid (fun w1 (hg : Below W.heap.size W w1) => show Calls Try.prog 16 #[.agg #[.string ow, .string pe, .string ro, .string se, .string re, .int .u64 (st : Int), .int .u64 (gt : Int), .int .u64 (pv : Int), .slice KP (kept.take 22).length kc, .slice U (used.take 42).length uc], .int .i64 (mo : Int)] w1 (fun e w' => (∃ v, e = .returned (.tuple #[.agg #[.string ow, .string pe, .string ro, .string se, .string re, .int .u64 (st : Int), .int .u64 (gt : Int), .int .u64 (pv : Int), .slice KP (kept.take 22).length kc, .slice (restA U uc (min mo (used.take 42).length)) ((used.take 42).length - min mo (used.take 42).length) (uc - min mo (used.take 42).length)], v, .int .i64 0]) ∧ Out Kd.string w' v ((used.take 42).take (min mo (used.take 42).length))) ∧ Below w1.heap.size w1 w') from Take_yes ⟨ow, pe, ro, se, re, st, gt, pv, kept.take 22, used.take 42⟩ KP kc U uc w1 (Kd.C_below hK' hg) hkl (Kd.C_below hU' hg) hul hu1 mo hs hm2)
  generalize hmn : min mo (used.take 42).length = nn at *
  have hn1 : nn ≤ (used.take 42).length := by omega
  have HN := Lib.hid hmn
  clear hmn
  have HLN := Lib.hid (show ((used.take 42).take nn).length = nn by rw [List.length_take]; omega)
  have HLR := Lib.hid (show ((used.take 42).take nn) ++ ((used.take 42).drop nn) = used.take 42 from List.take_append_drop _ _)
  have HCR := Lib.hid (fun w1 (hg : Below W.heap.size W w1) => Kd.C_below (C_rest hU' hn1 hul) hg)
  have HCU := Lib.hid (fun w1 (hg : Below W.heap.size W w1) => Kd.C_below hU' hg)
  have HCT := Lib.hid (fun w1 (hg : Below W.heap.size W w1) => Kd.C_below (C_take hU' nn hn1) hg)
  have HFr := Lib.hid (fun w1 (hg : Below W.heap.size W w1) => RvFrame_yes a b c (ks.take 34) A cp w1 (Kd.C_below hA' hg) hal ha1 hf)
  have HSm := Lib.hid (fun w1 (hg : Below W.heap.size W w1) => show Calls Try.prog 11 #[.agg #[.int .i64 2, .int .u64 (a : Int), .int .u64 (b : Int), .int .u64 (c : Int), .string ⟨#[]⟩, .string ⟨#[]⟩, .int .u64 0, .int .u64 0, .string ⟨#[]⟩, .int .u64 0, .int .u64 0, .string ⟨#[]⟩, .slice A (ks.take 34).length cp], .agg #[.int .i64 2, .int .u64 (a : Int), .int .u64 (b : Int), .int .u64 (c : Int), .string ⟨#[]⟩, .string ⟨#[]⟩, .int .u64 0, .int .u64 0, .string ⟨#[]⟩, .int .u64 0, .int .u64 0, .string ⟨#[]⟩, .slice A (ks.take 34).length cp]] w1 (fun e w' => e = .returned (.bool true) ∧ Below w1.heap.size w1 w') from RSame_self (keyF a b c (ks.take 34)) A cp w1 (Kd.C_below hA' hg) hal ha1)
  have HRF := Lib.hid (fun w1 (hg : Below W.heap.size W w1) => show Calls Try.prog 9 #[.agg #[.int .i64 2, .int .u64 (a : Int), .int .u64 (b : Int), .int .u64 (c : Int), .string ⟨#[]⟩, .string ⟨#[]⟩, .int .u64 0, .int .u64 0, .string ⟨#[]⟩, .int .u64 0, .int .u64 0, .string ⟨#[]⟩, .slice A (ks.take 34).length cp]] w1 (fun e w' => e = .returned (.bool true) ∧ Below w1.heap.size w1 w') from hf ▸ RRight_fr (keyF a b c (ks.take 34)) A cp w1 (Kd.C_below hA' hg) hal ha1)
  clear hs hf hK hkc hU huc hA hc hK' hU' hA' hk1 hu1 ha1 hfew
  have j1 : (((kept.take 22).length : Nat) : Int) ≤ (kc : Int) := by omega
  have j2 : (((used.take 42).length : Nat) : Int) ≤ (uc : Int) := by omega
  generalize hk2 : (kept.take 22).length = k2 at *
  generalize hu2 : (used.take 42).length = u2 at *
  generalize hm2' : (ks.take 34).length = m at *
  have HU2 := Lib.hid hu2
  clear hk2 hu2 hm2' hkl hal
  have j3 : (0 : Int) ≤ (k2 : Int) := by omega
  have j4 : (0 : Int) ≤ (u2 : Int) := by omega
  have HO := (Own.start W).alloc' (.cells #[.string ow, .string pe, .string ro, .string se, .string re, .int .u64 (st : Int), .int .u64 (gt : Int), .int .u64 (pv : Int), .slice KP kn kc, .slice U un uc] 36) rfl
  go_enter Try.func4, Try.ntmps4
  go_wp2_with fail
  refine bstart (fun _ => W.heap.size) (n := 21) (ds := [17, 19]) #[false, false, false, false, false, false, false, false, false, false, false, false, false, false, false, false, false, false, false, false, false] (by kernel_rfl) rfl rfl HO.below.size (fun HBS => ?_)
  refine bseqS (n := 4) s1RT 0 131071 [1, 5, 133, 645, 17029, 17031, 17039, 17055, 17087, 17151, 17407, 18431, 20479, 24575, 32767, 98303, 131071] (by kernel_rfl) (.inl rfl) [(0, true, some 21), (2, true, some 23), (7, true, some 28), (9, true, some 30), (14, true, some 35), (1, false, some 22), (3, false, some 24), (4, true, some 25), (5, true, some 26), (6, true, some 27), (8, false, some 29), (10, false, some 31), (11, true, some 32), (12, true, some 33), (13, true, some 34), (16, true, some 37), (15, false, some 36)] #[true, true, true, true, true, true, true, true, true, true, true, true, true, true, true, true, true, false, false, false, false] HBS (by kernel_rfl) (by kernel_rfl) (by kernel_rfl) (by kernel_rfl) rfl (fun _ _ _ _ _ h => h) ?_
  iterate 5 (refine sP (v := ?_) (a' := ?_) rfl rfl (by rfl) ?_ ?_ ?_; rotate_left 2; (· intro w'; go_simp; with_reducible rfl); (· simp only [Act.put, List.setIfInBounds_toArray, List.set_cons_zero, List.set_cons_succ, kw64, kw32]; rfl))
  iterate 2 (refine sL (v := ?_) (a' := ?_) rfl rfl (by rfl) ?_ ?_ ?_; rotate_left 2; (· intro w1 hg; have c9 := (HO.up hg).cell 0 rfl; go_simp; with_reducible rfl); (· simp only [Act.put, List.setIfInBounds_toArray, List.set_cons_zero, List.set_cons_succ, kw64, kw32]; rfl))
  (refine sP (v := ?_) (a' := ?_) rfl rfl (by rfl) ?_ ?_ ?_; rotate_left 2; (· intro w'; go_simp; with_reducible rfl); (· simp only [Act.put, List.setIfInBounds_toArray, List.set_cons_zero, List.set_cons_succ, kw64, kw32]; rfl))
  (refine sP (v := .int .i64 (k2 : Int)) (a' := ?_) rfl rfl (by rfl) ?_ ?_ ?_; rotate_left 1; (· intro w'; go_simp; exact HMK.out); (· simp only [Act.put, List.setIfInBounds_toArray, List.set_cons_zero, List.set_cons_succ, kw64, kw32]; rfl))
  (refine sP (v := ?_) (a' := ?_) rfl rfl (by rfl) ?_ ?_ ?_; rotate_left 2; (· intro w'; go_simp; with_reducible rfl); (· simp only [Act.put, List.setIfInBounds_toArray, List.set_cons_zero, List.set_cons_succ, kw64, kw32]; rfl))
  iterate 2 (refine sL (v := ?_) (a' := ?_) rfl rfl (by rfl) ?_ ?_ ?_; rotate_left 2; (· intro w1 hg; have c9 := (HO.up hg).cell 0 rfl; go_simp; with_reducible rfl); (· simp only [Act.put, List.setIfInBounds_toArray, List.set_cons_zero, List.set_cons_succ, kw64, kw32]; rfl))
  (refine sP (v := ?_) (a' := ?_) rfl rfl (by rfl) ?_ ?_ ?_; rotate_left 2; (· intro w'; go_simp; with_reducible rfl); (· simp only [Act.put, List.setIfInBounds_toArray, List.set_cons_zero, List.set_cons_succ, kw64, kw32]; rfl))
  (refine sP (v := .int .i64 (u2 : Int)) (a' := ?_) rfl rfl (by rfl) ?_ ?_ ?_; rotate_left 1; (· intro w'; go_simp; exact HMU.out); (· simp only [Act.put, List.setIfInBounds_toArray, List.set_cons_zero, List.set_cons_succ, kw64, kw32]; rfl))
  iterate 2 (refine sP (v := ?_) (a' := ?_) rfl rfl (by rfl) ?_ ?_ ?_; rotate_left 2; (· intro w'; go_simp; with_reducible rfl); (· simp only [Act.put, List.setIfInBounds_toArray, List.set_cons_zero, List.set_cons_succ, kw64, kw32]; rfl))
  (refine sC (v := ?_) (a' := ?_) Try.func15 rfl rfl (by rfl) rfl (by kernel_rfl) rfl (by rfl) ?_ ?_ ?_; rotate_left 2; (· intro w1 hg; exact HF.out w1); (· simp only [Act.put, List.setIfInBounds_toArray, List.set_cons_zero, List.set_cons_succ, kw64, kw32]; rfl))
  refine bone (i := 17) (N := none) #[true, true, true, true, true, true, true, true, true, true, true, true, true, true, true, true, true, true, false, false, false] rfl rfl (by kernel_rfl) HBS (fun w1 hg K hK => ?_)
  rw [if_pos (by rfl)]
  replace HO := HO.up hg
  have c0 := HO.cell 0 rfl 8
  have f0 := HO.frozen 0 rfl 8
  go_simp
  refine hK _ _ (in_ds (by decide) (bel_set (by have := HO.ge 0 rfl; exact this))) (fun HBS => ?_)
  replace HO := HO.set' 0 rfl 8 (.slice KP k2 kc) (L' := [(W.heap.size, .cells #[.string ow, .string pe, .string ro, .string se, .string re, .int .u64 (st : Int), .int .u64 (gt : Int), .int .u64 (pv : Int), .slice KP k2 kc, .slice U un uc] 36 (0, 0))]) rfl
  clear c0 f0 hg K hK
  revert HO HBS
  generalize World.setCell w1 _ _ = wb
  intro HBS HO
  refine bseqS (n := 2) s1RT 262143 524287 [524287] (by kernel_rfl) (.inl rfl) [(18, true, some 38)] #[true, true, true, true, true, true, true, true, true, true, true, true, true, true, true, true, true, true, true, false, false] HBS (by kernel_rfl) (by kernel_rfl) (by kernel_rfl) (by kernel_rfl) rfl (fun _ _ _ _ _ h => h) ?_
  (refine sP (v := ?_) (a' := ?_) rfl rfl (by rfl) ?_ ?_ ?_; rotate_left 2; (· intro w'; go_simp; with_reducible rfl); (· simp only [Act.put, List.setIfInBounds_toArray, List.set_cons_zero, List.set_cons_succ, kw64, kw32]; rfl))
  refine bone (i := 19) (N := none) #[true, true, true, true, true, true, true, true, true, true, true, true, true, true, true, true, true, true, true, true, false] rfl rfl (by kernel_rfl) HBS (fun w1 hg K hK => ?_)
  rw [if_pos (by rfl)]
  replace HO := HO.up hg
  have c0 := HO.cell 0 rfl 9
  have f0 := HO.frozen 0 rfl 9
  go_simp
  refine hK _ _ (in_ds (by decide) (bel_set (by have := HO.ge 0 rfl; exact this))) (fun HBS => ?_)
  replace HO := HO.set' 0 rfl 9 (.slice U u2 uc) (L' := [(W.heap.size, .cells #[.string ow, .string pe, .string ro, .string se, .string re, .int .u64 (st : Int), .int .u64 (gt : Int), .int .u64 (pv : Int), .slice KP k2 kc, .slice U u2 uc] 36 (0, 0))]) rfl
  clear c0 f0 hg K hK
  revert HO HBS
  generalize World.setCell w1 _ _ = wb
  intro HBS HO
  refine bseqS (n := 0) s1RT 1048575 2097151 [2097151] (by kernel_rfl) (.inl rfl) [(20, true, some 5)] #[true, true, true, true, true, true, true, true, true, true, true, true, true, true, true, true, true, true, true, true, true] HBS (by kernel_rfl) (by kernel_rfl) (by kernel_rfl) (by kernel_rfl) rfl (fun _ _ _ _ _ h => h) ?_
  (refine sP (v := ?_) (a' := ?_) rfl rfl (by rfl) ?_ ?_ ?_; rotate_left 2; (· intro w'; go_simp; with_reducible rfl); (· simp only [Act.put, List.setIfInBounds_toArray, List.set_cons_zero, List.set_cons_succ, kw64, kw32]; rfl))
  refine bdone (by kernel_rfl) (fun w1 hg => ?_)
  replace HO := HO.up hg
  clear hg HF HMK HMU HBS
  go_wp2_with (refine wpList_load_row rfl 36 (.tmp 6) rfl W.heap.size (by rfl) _ #[.string ow, .string pe, .string ro, .string se, .string re, .int .u64 (st : Int), .int .u64 (gt : Int), .int .u64 (pv : Int), .slice KP k2 kc, .slice U u2 uc] _ _ (HO.blk 0 rfl) Try.underlying36 rfl (by kernel_rfl) ?_)
  refine (HT.out _ HO.below).mono ?_
  rintro e w2 ⟨⟨v, rfl, hv⟩, hb⟩
  obtain ⟨Av, cv, rfl, hlv, hCv⟩ := Out_len hv HLN.out
  replace HO := HO.up hb
  have HCW := Lib.hid hCv
  clear hCv
  have HLV := Lib.hid hlv
  have HP := Own.start w2
  clear hb HT hv hlv
  replace HO := HO.alloc' (.cells #[.string ⟨#[]⟩, .string ⟨#[]⟩, .string ⟨#[]⟩, .string ⟨#[]⟩, .string ⟨#[]⟩, .int .u64 0, .int .u64 0, .int .u64 0, .slice none 0 0, .slice none 0 0] 36) rfl
  replace HP := HP.alloc' (.cells #[.string ⟨#[]⟩, .string ⟨#[]⟩, .string ⟨#[]⟩, .string ⟨#[]⟩, .string ⟨#[]⟩, .int .u64 0, .int .u64 0, .int .u64 0, .slice none 0 0, .slice none 0 0] 36) rfl
  go_wp2_with (refine wpList_store_row rfl 36 (.tmp 13) (.tmp 43) rfl w2.heap.size #[.string ow, .string pe, .string ro, .string se, .string re, .int .u64 (st : Int), .int .u64 (gt : Int), .int .u64 (pv : Int), .slice KP k2 kc, .slice (restA U uc nn) (u2 - nn) (uc - nn)] (by rfl) (by rfl) _ _ (HO.blk 0 rfl) (by kernel_rfl) rfl (sesC_one _ _ _ _ _ _ _ _ _ _ _ _ _ _) ?_)
  replace HO := HO.setRow 0 rfl #[.string ow, .string pe, .string ro, .string se, .string re, .int .u64 (st : Int), .int .u64 (gt : Int), .int .u64 (pv : Int), .slice KP k2 kc, .slice (restA U uc nn) (u2 - nn) (uc - nn)] (L' := [(w2.heap.size, .cells #[.string ow, .string pe, .string ro, .string se, .string re, .int .u64 (st : Int), .int .u64 (gt : Int), .int .u64 (pv : Int), .slice KP k2 kc, .slice (restA U uc nn) (u2 - nn) (uc - nn)] 36 (0, 0)), (W.heap.size, .cells #[.string ow, .string pe, .string ro, .string se, .string re, .int .u64 (st : Int), .int .u64 (gt : Int), .int .u64 (pv : Int), .slice KP k2 kc, .slice U u2 uc] 36 (0, 0))]) rfl
  replace HP := HP.setRow 0 rfl #[.string ow, .string pe, .string ro, .string se, .string re, .int .u64 (st : Int), .int .u64 (gt : Int), .int .u64 (pv : Int), .slice KP k2 kc, .slice (restA U uc nn) (u2 - nn) (uc - nn)] (L' := [(w2.heap.size, .cells #[.string ow, .string pe, .string ro, .string se, .string re, .int .u64 (st : Int), .int .u64 (gt : Int), .int .u64 (pv : Int), .slice KP k2 kc, .slice (restA U uc nn) (u2 - nn) (uc - nn)] 36 (0, 0))]) rfl
  refine (HFr.out _ HO.below).mono ?_
  rintro e w3 ⟨rfl, hb⟩
  replace HO := HO.up hb
  replace HP := HP.up hb
  clear hb HFr
  replace HO := HO.alloc' (.cells #[.int .i64 0, .int .u64 0, .int .u64 0, .int .u64 0, .string ⟨#[]⟩, .string ⟨#[]⟩, .int .u64 0, .int .u64 0, .string ⟨#[]⟩, .int .u64 0, .int .u64 0, .string ⟨#[]⟩, .slice none 0 0] 25) rfl
  replace HP := HP.alloc' (.cells #[.int .i64 0, .int .u64 0, .int .u64 0, .int .u64 0, .string ⟨#[]⟩, .string ⟨#[]⟩, .int .u64 0, .int .u64 0, .string ⟨#[]⟩, .int .u64 0, .int .u64 0, .string ⟨#[]⟩, .slice none 0 0] 25) rfl
  go_wp2_with (refine wpList_store_row rfl 25 (.tmp 16) (.tmp 52) rfl w3.heap.size #[.int .i64 2, .int .u64 (a : Int), .int .u64 (b : Int), .int .u64 (c : Int), .string ⟨#[]⟩, .string ⟨#[]⟩, .int .u64 0, .int .u64 0, .string ⟨#[]⟩, .int .u64 0, .int .u64 0, .string ⟨#[]⟩, .slice A m cp] (by rfl) (by rfl) _ _ (HO.blk 0 rfl) (by kernel_rfl) rfl (frC_one _ _ _ _ _ _ _ _ _ _ _ _ _ _ _) ?_)
  replace HO := HO.setRow 0 rfl #[.int .i64 2, .int .u64 (a : Int), .int .u64 (b : Int), .int .u64 (c : Int), .string ⟨#[]⟩, .string ⟨#[]⟩, .int .u64 0, .int .u64 0, .string ⟨#[]⟩, .int .u64 0, .int .u64 0, .string ⟨#[]⟩, .slice A m cp] (L' := [(w3.heap.size, .cells #[.int .i64 2, .int .u64 (a : Int), .int .u64 (b : Int), .int .u64 (c : Int), .string ⟨#[]⟩, .string ⟨#[]⟩, .int .u64 0, .int .u64 0, .string ⟨#[]⟩, .int .u64 0, .int .u64 0, .string ⟨#[]⟩, .slice A m cp] 25 (0, 0)), (w2.heap.size, .cells #[.string ow, .string pe, .string ro, .string se, .string re, .int .u64 (st : Int), .int .u64 (gt : Int), .int .u64 (pv : Int), .slice KP k2 kc, .slice (restA U uc nn) (u2 - nn) (uc - nn)] 36 (0, 0)), (W.heap.size, .cells #[.string ow, .string pe, .string ro, .string se, .string re, .int .u64 (st : Int), .int .u64 (gt : Int), .int .u64 (pv : Int), .slice KP k2 kc, .slice U u2 uc] 36 (0, 0))]) rfl
  replace HP := HP.setRow 0 rfl #[.int .i64 2, .int .u64 (a : Int), .int .u64 (b : Int), .int .u64 (c : Int), .string ⟨#[]⟩, .string ⟨#[]⟩, .int .u64 0, .int .u64 0, .string ⟨#[]⟩, .int .u64 0, .int .u64 0, .string ⟨#[]⟩, .slice A m cp] (L' := [(w3.heap.size, .cells #[.int .i64 2, .int .u64 (a : Int), .int .u64 (b : Int), .int .u64 (c : Int), .string ⟨#[]⟩, .string ⟨#[]⟩, .int .u64 0, .int .u64 0, .string ⟨#[]⟩, .int .u64 0, .int .u64 0, .string ⟨#[]⟩, .slice A m cp] 25 (0, 0)), (w2.heap.size, .cells #[.string ow, .string pe, .string ro, .string se, .string re, .int .u64 (st : Int), .int .u64 (gt : Int), .int .u64 (pv : Int), .slice KP k2 kc, .slice (restA U uc nn) (u2 - nn) (uc - nn)] 36 (0, 0))]) rfl
  replace HO := HO.alloc' (.cells #[.int .i64 2, .int .u64 (a : Int), .int .u64 (b : Int), .int .u64 (c : Int), .string ⟨#[]⟩, .string ⟨#[]⟩, .int .u64 0, .int .u64 0, .string ⟨#[]⟩, .int .u64 0, .int .u64 0, .string ⟨#[]⟩, .slice A m cp] 25) (show _ = w3.heap.size + 1 by simp [size_setRow])
  replace HP := HP.alloc' (.cells #[.int .i64 2, .int .u64 (a : Int), .int .u64 (b : Int), .int .u64 (c : Int), .string ⟨#[]⟩, .string ⟨#[]⟩, .int .u64 0, .int .u64 0, .string ⟨#[]⟩, .int .u64 0, .int .u64 0, .string ⟨#[]⟩, .slice A m cp] 25) (show _ = w3.heap.size + 1 by simp [size_setRow])
  refine (HRF.out _ HO.below).mono ?_
  rintro e w4 ⟨rfl, hb⟩
  replace HO := HO.up hb
  replace HP := HP.up hb
  clear hb HRF
  have c0 := HO.cell 0 rfl
  have c1 := HO.cell 1 rfl
  go_wp2_with fail
  refine (HSm.out _ HO.below).mono ?_
  rintro e w5 ⟨rfl, hb⟩
  replace HO := HO.up hb
  replace HP := HP.up hb
  clear hb HSm c0 c1
  go_wp2_with fail
  refine (HAl.out _).mono ?_
  rintro e w6 ⟨rfl, hb⟩
  replace HO := HO.up hb
  replace HP := HP.up hb
  clear hb HAl
  go_wp2_with (refine wpList_load_row rfl 36 (.tmp 6) rfl W.heap.size (by rfl) _ #[.string ow, .string pe, .string ro, .string se, .string re, .int .u64 (st : Int), .int .u64 (gt : Int), .int .u64 (pv : Int), .slice KP k2 kc, .slice U u2 uc] _ _ (HO.blk 3 rfl) Try.underlying36 rfl (by kernel_rfl) ?_)
  refine (HRS.out _ HO.below).mono ?_
  rintro e w7 ⟨rfl, hb⟩
  replace HO := HO.up hb
  replace HP := HP.up hb
  clear hb HRS
  have i0 : (0 : Int) ≤ (mo : Int) := by omega
  have i1 : ¬ ((mo : Int) < 0) := by omega
  have i2 : ¬ ((mo : Int) > 32) := by omega
  have i3 : (0 : Int) ≤ (nn : Int) := by omega
  have i4 : (nn : Int) ≤ (uc : Int) := by omega
  have i5 : min (mo : Int) (u2 : Int) = (nn : Int) := by have := HN.out; omega
  have c3 := HO.cell 3 rfl
  have HCV := Lib.hid (fun w4 (hg : Gr w7 w4) => Kd.C_below (Kd.C_below HCW.out HP.below) hg)
  clear HCW HP
  have HQ := Lib.hid (show nn ≤ 400 ∧ nn ≤ uc ∧ u2 ≤ uc ∧ u2 ≤ 400 ∧ nn ≤ u2 by have := HU2.out; rw [List.length_take] at this; omega)
  go_wp2_with fail
  clear c3
  refine bstart (fun w => w.heap.size) (n := 63) (ds := []) #[false, false, false, false, false, false, false, false, false, false, false, false, false, false, false, false, false, false, false, false, false, false, false, false, false, false, false, false, false, false, false, false, false, false, false, false, false, false, false, false, false, false, false, false, false, false, false, false, false, false, false, false, false, false, false, false, false, false, false, false, false, false, false] (by kernel_rfl) rfl rfl (Nat.le_refl _) (fun HBS => ?_)
  refine bseqS (n := 47) s13RT 0 212991 [1, 3, 7, 15, 31, 95, 127, 255, 511, 1023, 2047, 4095, 8191, 73727, 81919, 212991] (by kernel_rfl) (.inl rfl) [(0, true, some 130), (1, true, some 131), (2, true, some 132), (3, true, some 133), (4, true, some 134), (6, true, some 136), (5, true, some 135), (7, true, some 137), (8, true, some 138), (9, true, some 139), (10, true, some 140), (11, true, some 141), (12, true, some 142), (16, true, some 146), (13, true, some 143), (17, true, some 147)] #[true, true, true, true, true, true, true, true, true, true, true, true, true, true, false, false, true, true, false, false, false, false, false, false, false, false, false, false, false, false, false, false, false, false, false, false, false, false, false, false, false, false, false, false, false, false, false, false, false, false, false, false, false, false, false, false, false, false, false, false, false, false, false] HBS (by kernel_rfl) (by kernel_rfl) (by kernel_rfl) (by kernel_rfl) rfl (fun _ _ _ _ _ h => h) ?_
  iterate 6 (refine sP (v := ?_) (a' := ?_) rfl rfl (by rfl) ?_ ?_ ?_; rotate_left 2; (· intro w'; go_simp; with_reducible rfl); (· simp only [Act.put, List.setIfInBounds_toArray, List.set_cons_zero, List.set_cons_succ, kw64, kw32]; rfl))
  (refine sB (v := ?_) (a' := ?_) rfl rfl (by rfl) ?_ ?_ ?_; rotate_left 2; (· intro w1 hg; have c9 := (HO.up hg).cell 3 rfl; have c8 := (HO.up hg).cell 2 rfl; go_simp; with_reducible rfl); (· simp only [Act.put, List.setIfInBounds_toArray, List.set_cons_zero, List.set_cons_succ, kw64, kw32]; rfl))
  (refine sP (v := ?_) (a' := ?_) rfl rfl (by rfl) ?_ ?_ ?_; rotate_left 2; (· intro w'; go_simp; with_reducible rfl); (· simp only [Act.put, List.setIfInBounds_toArray, List.set_cons_zero, List.set_cons_succ, kw64, kw32]; rfl))
  (refine sD (v := ?_) (a' := ?_) Try.func21 rfl rfl (by rfl) rfl (by kernel_rfl) rfl (by rfl) ?_ ?_ ?_; rotate_left 2; (· intro w1 hg; exact Texts_len _ nn HLN.out Av cv U uc w1 (HCV.out w1 hg) HLV.out (HCT.out w1 (HO.up hg).below) HQ.out.2.1 (by have := HQ.out; omega)); (· simp only [Act.put, List.setIfInBounds_toArray, List.set_cons_zero, List.set_cons_succ, kw64, kw32]; rfl))
  iterate 5 (refine sP (v := ?_) (a' := ?_) rfl rfl (by rfl) ?_ ?_ ?_; rotate_left 2; (· intro w'; go_simp; with_reducible rfl); (· simp only [Act.put, List.setIfInBounds_toArray, List.set_cons_zero, List.set_cons_succ, kw64, kw32]; rfl))
  iterate 2 (refine sB (v := ?_) (a' := ?_) rfl rfl (by rfl) ?_ ?_ ?_; rotate_left 2; (· intro w1 hg; have c9 := (HO.up hg).cell 3 rfl; have c8 := (HO.up hg).cell 2 rfl; go_simp; with_reducible rfl); (· simp only [Act.put, List.setIfInBounds_toArray, List.set_cons_zero, List.set_cons_succ, kw64, kw32]; rfl))
  refine bone (i := 14) (N := (some 144)) #[true, true, true, true, true, true, true, true, true, true, true, true, true, true, true, false, true, true, false, false, false, false, false, false, false, false, false, false, false, false, false, false, false, false, false, false, false, false, false, false, false, false, false, false, false, false, false, false, false, false, false, false, false, false, false, false, false, false, false, false, false, false, false] rfl rfl (by kernel_rfl) HBS (fun w1 hg K hK => ?_)
  rw [if_pos (by rfl)]
  have hcv := HCV.out w1 hg
  replace HO := HO.up hg
  have hz := HO.lt 0 rfl
  go_simp
  refine hK _ _ (not_ds (by decide) (below_alloc (Below.refl _ _) _)) (fun HBS => ?_)
  replace HCV := Lib.hid (Kd.C_below hcv (below_alloc (Below.refl _ _) (.cells #[.slice Av nn cv, .slice (restA U uc nn) (u2 - nn) (uc - nn)] 23)))
  replace HO := HO.alloc (.cells #[.slice Av nn cv, .slice (restA U uc nn) (u2 - nn) (uc - nn)] 23)
  have hga := Below.size hg
  clear hg K hK hz hcv
  generalize w1.alloc (.cells #[.slice Av nn cv, .slice (restA U uc nn) (u2 - nn) (uc - nn)] 23) = wa at *
  generalize w1.heap.size = ga at *
  refine bone (i := 15) (N := (some 145)) #[true, true, true, true, true, true, true, true, true, true, true, true, true, true, true, true, true, true, false, false, false, false, false, false, false, false, false, false, false, false, false, false, false, false, false, false, false, false, false, false, false, false, false, false, false, false, false, false, false, false, false, false, false, false, false, false, false, false, false, false, false, false, false] rfl rfl (by kernel_rfl) HBS (fun w1 hg K hK => ?_)
  rw [if_pos (by rfl)]
  replace HO := HO.up hg
  refine wp_call Try.func22 rfl (by kernel_rfl) rfl (by rfl) ((Concat_two ga Av nn cv _ (restA U uc nn) (u2 - nn) (uc - nn) _ w1 (HO.cell 0 rfl 0) (HO.cell 0 rfl 1) (Kd.C_below HCV.out hg) (HCR.out w1 HO.below) HQ.out.1 (by have := HQ.out; omega)).mono ?_)
  rintro e w2 ⟨⟨v2, rfl, hv2⟩, hb⟩
  rw [HLR.out] at hv2
  obtain ⟨A2, c2, rfl, hl2, hC2⟩ := Out_len hv2 HU2.out
  have HC2 := Lib.hid hC2
  have HL2 := Lib.hid hl2
  clear hv2 hC2 hl2
  refine ⟨_, rfl, hK _ _ (not_ds (by decide) hb) (fun HBS => ?_)⟩
  replace HO := HO.up hb
  refine at_dst (some 145) rfl ?_
  simp only [Act.put, List.setIfInBounds_toArray, List.set_cons_zero, List.set_cons_succ]
  refine bseqS (n := 0) s13RT 262143 9223372036854775807 [524287, 1048575, 2097151, 4194303, 12582911, 16777215, 33554431, 67108863, 134217727, 268435455, 536870911, 1610612735, 2147483647, 4294967295, 8589934591, 17179869183, 34359738367, 68719476735, 206158430207, 274877906943, 549755813887, 1099511627775, 2199023255551, 4398046511103, 8796093022207, 26388279066623, 35184372088831, 70368744177663, 140737488355327, 281474976710655, 562949953421311, 1125899906842623, 3377699720527871, 4503599627370495, 9007199254740991, 18014398509481983, 36028797018963967, 72057594037927935, 144115188075855871, 432345564227567615, 576460752303423487, 1152921504606846975, 2305843009213693951, 4611686018427387903, 9223372036854775807] (by kernel_rfl) (.inl rfl) [(18, false, some 148), (19, true, some 149), (20, true, some 150), (21, true, some 151), (23, true, some 153), (22, false, some 152), (24, false, some 154), (25, true, some 155), (26, true, some 156), (27, true, some 157), (28, true, some 158), (30, true, some 160), (29, false, some 159), (31, false, some 161), (32, true, some 162), (33, true, some 163), (34, true, some 164), (35, true, some 165), (37, true, some 167), (36, false, some 166), (38, false, some 168), (39, true, some 169), (40, true, some 170), (41, true, some 171), (42, true, some 172), (44, true, some 174), (43, false, some 173), (45, false, some 175), (46, true, some 176), (47, true, some 177), (48, true, some 178), (49, true, some 179), (51, true, some 181), (50, false, some 180), (52, false, some 182), (53, true, some 183), (54, true, some 184), (55, true, some 185), (56, true, some 186), (58, true, some 188), (57, false, some 187), (59, false, some 189), (60, true, some 190), (61, true, some 191), (62, true, some 12)] #[true, true, true, true, true, true, true, true, true, true, true, true, true, true, true, true, true, true, true, true, true, true, true, true, true, true, true, true, true, true, true, true, true, true, true, true, true, true, true, true, true, true, true, true, true, true, true, true, true, true, true, true, true, true, true, true, true, true, true, true, true, true, true] HBS (by kernel_rfl) (by kernel_rfl) (by kernel_rfl) (by kernel_rfl) rfl (fun _ _ _ _ _ h => h) ?_
  (refine sC (v := ?_) (a' := ?_) Try.func21 rfl rfl (by rfl) rfl (by kernel_rfl) rfl (by rfl) ?_ ?_ ?_; rotate_left 2; (· intro w1 hg; exact Texts_len _ u2 HU2.out A2 c2 U uc w1 (Kd.C_below HC2.out hg) HL2.out (HCU.out w1 (HO.up hg).below) (by have := HQ.out; omega) (by have := HQ.out; omega)); (· simp only [Act.put, List.setIfInBounds_toArray, List.set_cons_zero, List.set_cons_succ, kw64, kw32]; rfl))
  iterate 4 (refine sP (v := ?_) (a' := ?_) rfl rfl (by rfl) ?_ ?_ ?_; rotate_left 2; (· intro w'; go_simp; with_reducible rfl); (· simp only [Act.put, List.setIfInBounds_toArray, List.set_cons_zero, List.set_cons_succ, kw64, kw32]; rfl))
  iterate 2 (refine sL (v := ?_) (a' := ?_) rfl rfl (by rfl) ?_ ?_ ?_; rotate_left 2; (· intro w1 hg; have c9 := (HO.up hg).cell 4 rfl; have c8 := (HO.up hg).cell 3 rfl; go_simp; with_reducible rfl); (· simp only [Act.put, List.setIfInBounds_toArray, List.set_cons_zero, List.set_cons_succ, kw64, kw32]; rfl))
  iterate 5 (refine sP (v := ?_) (a' := ?_) rfl rfl (by rfl) ?_ ?_ ?_; rotate_left 2; (· intro w'; go_simp; with_reducible rfl); (· simp only [Act.put, List.setIfInBounds_toArray, List.set_cons_zero, List.set_cons_succ, kw64, kw32]; rfl))
  iterate 2 (refine sL (v := ?_) (a' := ?_) rfl rfl (by rfl) ?_ ?_ ?_; rotate_left 2; (· intro w1 hg; have c9 := (HO.up hg).cell 4 rfl; have c8 := (HO.up hg).cell 3 rfl; go_simp; with_reducible rfl); (· simp only [Act.put, List.setIfInBounds_toArray, List.set_cons_zero, List.set_cons_succ, kw64, kw32]; rfl))
  iterate 5 (refine sP (v := ?_) (a' := ?_) rfl rfl (by rfl) ?_ ?_ ?_; rotate_left 2; (· intro w'; go_simp; with_reducible rfl); (· simp only [Act.put, List.setIfInBounds_toArray, List.set_cons_zero, List.set_cons_succ, kw64, kw32]; rfl))
  iterate 2 (refine sL (v := ?_) (a' := ?_) rfl rfl (by rfl) ?_ ?_ ?_; rotate_left 2; (· intro w1 hg; have c9 := (HO.up hg).cell 4 rfl; have c8 := (HO.up hg).cell 3 rfl; go_simp; with_reducible rfl); (· simp only [Act.put, List.setIfInBounds_toArray, List.set_cons_zero, List.set_cons_succ, kw64, kw32]; rfl))
  iterate 5 (refine sP (v := ?_) (a' := ?_) rfl rfl (by rfl) ?_ ?_ ?_; rotate_left 2; (· intro w'; go_simp; with_reducible rfl); (· simp only [Act.put, List.setIfInBounds_toArray, List.set_cons_zero, List.set_cons_succ, kw64, kw32]; rfl))
  iterate 2 (refine sL (v := ?_) (a' := ?_) rfl rfl (by rfl) ?_ ?_ ?_; rotate_left 2; (· intro w1 hg; have c9 := (HO.up hg).cell 4 rfl; have c8 := (HO.up hg).cell 3 rfl; go_simp; with_reducible rfl); (· simp only [Act.put, List.setIfInBounds_toArray, List.set_cons_zero, List.set_cons_succ, kw64, kw32]; rfl))
  iterate 5 (refine sP (v := ?_) (a' := ?_) rfl rfl (by rfl) ?_ ?_ ?_; rotate_left 2; (· intro w'; go_simp; with_reducible rfl); (· simp only [Act.put, List.setIfInBounds_toArray, List.set_cons_zero, List.set_cons_succ, kw64, kw32]; rfl))
  iterate 2 (refine sL (v := ?_) (a' := ?_) rfl rfl (by rfl) ?_ ?_ ?_; rotate_left 2; (· intro w1 hg; have c9 := (HO.up hg).cell 4 rfl; have c8 := (HO.up hg).cell 3 rfl; go_simp; with_reducible rfl); (· simp only [Act.put, List.setIfInBounds_toArray, List.set_cons_zero, List.set_cons_succ, kw64, kw32]; rfl))
  iterate 5 (refine sP (v := ?_) (a' := ?_) rfl rfl (by rfl) ?_ ?_ ?_; rotate_left 2; (· intro w'; go_simp; with_reducible rfl); (· simp only [Act.put, List.setIfInBounds_toArray, List.set_cons_zero, List.set_cons_succ, kw64, kw32]; rfl))
  iterate 2 (refine sL (v := ?_) (a' := ?_) rfl rfl (by rfl) ?_ ?_ ?_; rotate_left 2; (· intro w1 hg; have c9 := (HO.up hg).cell 4 rfl; have c8 := (HO.up hg).cell 3 rfl; go_simp; with_reducible rfl); (· simp only [Act.put, List.setIfInBounds_toArray, List.set_cons_zero, List.set_cons_succ, kw64, kw32]; rfl))
  iterate 3 (refine sP (v := ?_) (a' := ?_) rfl rfl (by rfl) ?_ ?_ ?_; rotate_left 2; (· intro w'; go_simp; with_reducible rfl); (· simp only [Act.put, List.setIfInBounds_toArray, List.set_cons_zero, List.set_cons_succ, kw64, kw32]; rfl))
  refine bdone (by kernel_rfl) (fun w1 hg => ?_)
  replace HO := HO.up hg
  clear hg
  go_wp2
  go_ret
  exact ⟨rfl, HO.below⟩
set_option maxHeartbeats 8000000 in
set_option maxRecDepth 100000 in
theorem RT_yes_n (ow pe ro se re : ByteArray) (st gt pv : Nat) (kept : List Sk.KeptD) (used ks : List ByteArray) (KP : Option Addr) (kn kc : Nat) (U : Option Addr) (un uc : Nat) (A : Option Addr) (n cp : Nat) (mo : Nat) (a b c : Nat) (W : World)
    (hK : Kd.C Sk.kK W KP kn kept) (hkc : kn ≤ kc) (hU : Kd.string.C W U un used) (huc : un ≤ uc) (hA : Kd.string.C W A n ks) (hc : n ≤ cp)
    (hs : rightS ⟨ow, pe, ro, se, re, st, gt, pv, kept.take 22, used.take 42⟩ = true) (hf : rightF (keyF a b c (ks.take 34)) = false) (hm2 : mo ≤ 32) :
    Calls Try.prog 4 #[.agg #[.string ow, .string pe, .string ro, .string se, .string re, .int .u64 (st : Int), .int .u64 (gt : Int), .int .u64 (pv : Int), .slice KP kn kc, .slice U un uc], .int .i64 (mo : Int), .int .u64 (a : Int), .int .u64 (b : Int), .int .u64 (c : Int), .slice A n cp] W fun e W' => e = .returned (.bool true) ∧ Below W.heap.size W W' := by
  have hK' := take_G (k := 22) hK
  have hU' := take_G (k := 42) hU
  have hA' := take_G (k := 34) hA
  have HMK := Lib.hid (min_len (k := 22) hK.1)
  have HMU := Lib.hid (min_len (k := 42) hU.1)
  have hkl : (kept.take 22).length ≤ kc := by rw [List.length_take]; have := hK.1; omega
  have hul : (used.take 42).length ≤ uc := by rw [List.length_take]; have := hU.1; omega
  have hal : (ks.take 34).length ≤ cp := by rw [List.length_take]; have := hA.1; omega
  have hk1 : (kept.take 22).length ≤ 1000 := by rw [List.length_take]; omega
  have hu1 : (used.take 42).length ≤ 1000000 := by rw [List.length_take]; omega
  have ha1 : (ks.take 34).length ≤ 1000000 := by rw [List.length_take]; omega
  have hfew := few14 A n cp W hc
  have HF := Lib.hid (fun w1 => up_same (few14 A n cp w1 hc))
  rw [show min n 34 = (ks.take 34).length by rw [List.length_take]; have := hA.1; omega] at HF
  have HRS := Lib.hid (fun w1 (hg : Below W.heap.size W w1) => show Calls Try.prog 19 #[.agg #[.string ow, .string pe, .string ro, .string se, .string re, .int .u64 (st : Int), .int .u64 (gt : Int), .int .u64 (pv : Int), .slice KP (kept.take 22).length kc, .slice U (used.take 42).length uc]] w1 (fun e w' => e = .returned (.bool true) ∧ Below w1.heap.size w1 w') from hs ▸ RSRight_any ⟨ow, pe, ro, se, re, st, gt, pv, kept.take 22, used.take 42⟩ KP kc U uc w1 (Kd.C_below hK' hg) hkl hk1 (Kd.C_below hU' hg) hul hu1)
  have HAl := Lib.hid (fun w1 => alive14 w1)
  have HT := Lib.hid (fun w1 (hg : Below W.heap.size W w1) => show Calls Try.prog 16 #[.agg #[.string ow, .string pe, .string ro, .string se, .string re, .int .u64 (st : Int), .int .u64 (gt : Int), .int .u64 (pv : Int), .slice KP (kept.take 22).length kc, .slice U (used.take 42).length uc], .int .i64 (mo : Int)] w1 (fun e w' => (∃ v, e = .returned (.tuple #[.agg #[.string ow, .string pe, .string ro, .string se, .string re, .int .u64 (st : Int), .int .u64 (gt : Int), .int .u64 (pv : Int), .slice KP (kept.take 22).length kc, .slice (restA U uc (min mo (used.take 42).length)) ((used.take 42).length - min mo (used.take 42).length) (uc - min mo (used.take 42).length)], v, .int .i64 0]) ∧ Out Kd.string w' v ((used.take 42).take (min mo (used.take 42).length))) ∧ Below w1.heap.size w1 w') from Take_yes ⟨ow, pe, ro, se, re, st, gt, pv, kept.take 22, used.take 42⟩ KP kc U uc w1 (Kd.C_below hK' hg) hkl (Kd.C_below hU' hg) hul hu1 mo hs hm2)
  generalize hmn : min mo (used.take 42).length = nn at *
  have hn1 : nn ≤ (used.take 42).length := by omega
  have HN := Lib.hid hmn
  clear hmn
  have HLN := Lib.hid (show ((used.take 42).take nn).length = nn by rw [List.length_take]; omega)
  have HLR := Lib.hid (show ((used.take 42).take nn) ++ ((used.take 42).drop nn) = used.take 42 from List.take_append_drop _ _)
  have HCR := Lib.hid (fun w1 (hg : Below W.heap.size W w1) => Kd.C_below (C_rest hU' hn1 hul) hg)
  have HCU := Lib.hid (fun w1 (hg : Below W.heap.size W w1) => Kd.C_below hU' hg)
  have HCT := Lib.hid (fun w1 (hg : Below W.heap.size W w1) => Kd.C_below (C_take hU' nn hn1) hg)
  have HFr := Lib.hid (fun w1 (hg : Below W.heap.size W w1) => RvFrame_no a b c (ks.take 34) A cp w1 (Kd.C_below hA' hg) hal ha1 hf)
  have HSm := Lib.hid (fun w1 (hg : Below W.heap.size W w1) => show Calls Try.prog 11 #[.agg #[.int .i64 0, .int .u64 0, .int .u64 0, .int .u64 0, .string ⟨#[]⟩, .string ⟨#[]⟩, .int .u64 0, .int .u64 0, .string ⟨#[]⟩, .int .u64 0, .int .u64 0, .string ⟨#[]⟩, .slice none 0 0], .agg #[.int .i64 0, .int .u64 0, .int .u64 0, .int .u64 0, .string ⟨#[]⟩, .string ⟨#[]⟩, .int .u64 0, .int .u64 0, .string ⟨#[]⟩, .int .u64 0, .int .u64 0, .string ⟨#[]⟩, .slice none 0 0]] w1 (fun e w' => e = .returned (.bool true) ∧ Below w1.heap.size w1 w') from RSame_self (⟨0, 0, 0, 0, ⟨#[]⟩, ⟨#[]⟩, 0, 0, ⟨#[]⟩, 0, 0, ⟨#[]⟩, []⟩ : FrD) none 0 w1 (C_zero _ _ _) (Nat.le_refl 0) (by decide))
  have HRF := Lib.hid (fun w1 (hg : Below W.heap.size W w1) => show Calls Try.prog 9 #[.agg #[.int .i64 2, .int .u64 (a : Int), .int .u64 (b : Int), .int .u64 (c : Int), .string ⟨#[]⟩, .string ⟨#[]⟩, .int .u64 0, .int .u64 0, .string ⟨#[]⟩, .int .u64 0, .int .u64 0, .string ⟨#[]⟩, .slice A (ks.take 34).length cp]] w1 (fun e w' => e = .returned (.bool false) ∧ Below w1.heap.size w1 w') from hf ▸ RRight_fr (keyF a b c (ks.take 34)) A cp w1 (Kd.C_below hA' hg) hal ha1)
  clear hs hf hK hkc hU huc hA hc hK' hU' hA' hk1 hu1 ha1 hfew
  have j1 : (((kept.take 22).length : Nat) : Int) ≤ (kc : Int) := by omega
  have j2 : (((used.take 42).length : Nat) : Int) ≤ (uc : Int) := by omega
  generalize hk2 : (kept.take 22).length = k2 at *
  generalize hu2 : (used.take 42).length = u2 at *
  generalize hm2' : (ks.take 34).length = m at *
  have HU2 := Lib.hid hu2
  clear hk2 hu2 hm2' hkl hal
  have j3 : (0 : Int) ≤ (k2 : Int) := by omega
  have j4 : (0 : Int) ≤ (u2 : Int) := by omega
  have HO := (Own.start W).alloc' (.cells #[.string ow, .string pe, .string ro, .string se, .string re, .int .u64 (st : Int), .int .u64 (gt : Int), .int .u64 (pv : Int), .slice KP kn kc, .slice U un uc] 36) rfl
  go_enter Try.func4, Try.ntmps4
  go_wp2_with fail
  refine bstart (fun _ => W.heap.size) (n := 21) (ds := [17, 19]) #[false, false, false, false, false, false, false, false, false, false, false, false, false, false, false, false, false, false, false, false, false] (by kernel_rfl) rfl rfl HO.below.size (fun HBS => ?_)
  refine bseqS (n := 4) s1RT 0 131071 [1, 5, 133, 645, 17029, 17031, 17039, 17055, 17087, 17151, 17407, 18431, 20479, 24575, 32767, 98303, 131071] (by kernel_rfl) (.inl rfl) [(0, true, some 21), (2, true, some 23), (7, true, some 28), (9, true, some 30), (14, true, some 35), (1, false, some 22), (3, false, some 24), (4, true, some 25), (5, true, some 26), (6, true, some 27), (8, false, some 29), (10, false, some 31), (11, true, some 32), (12, true, some 33), (13, true, some 34), (16, true, some 37), (15, false, some 36)] #[true, true, true, true, true, true, true, true, true, true, true, true, true, true, true, true, true, false, false, false, false] HBS (by kernel_rfl) (by kernel_rfl) (by kernel_rfl) (by kernel_rfl) rfl (fun _ _ _ _ _ h => h) ?_
  iterate 5 (refine sP (v := ?_) (a' := ?_) rfl rfl (by rfl) ?_ ?_ ?_; rotate_left 2; (· intro w'; go_simp; with_reducible rfl); (· simp only [Act.put, List.setIfInBounds_toArray, List.set_cons_zero, List.set_cons_succ, kw64, kw32]; rfl))
  iterate 2 (refine sL (v := ?_) (a' := ?_) rfl rfl (by rfl) ?_ ?_ ?_; rotate_left 2; (· intro w1 hg; have c9 := (HO.up hg).cell 0 rfl; go_simp; with_reducible rfl); (· simp only [Act.put, List.setIfInBounds_toArray, List.set_cons_zero, List.set_cons_succ, kw64, kw32]; rfl))
  (refine sP (v := ?_) (a' := ?_) rfl rfl (by rfl) ?_ ?_ ?_; rotate_left 2; (· intro w'; go_simp; with_reducible rfl); (· simp only [Act.put, List.setIfInBounds_toArray, List.set_cons_zero, List.set_cons_succ, kw64, kw32]; rfl))
  (refine sP (v := .int .i64 (k2 : Int)) (a' := ?_) rfl rfl (by rfl) ?_ ?_ ?_; rotate_left 1; (· intro w'; go_simp; exact HMK.out); (· simp only [Act.put, List.setIfInBounds_toArray, List.set_cons_zero, List.set_cons_succ, kw64, kw32]; rfl))
  (refine sP (v := ?_) (a' := ?_) rfl rfl (by rfl) ?_ ?_ ?_; rotate_left 2; (· intro w'; go_simp; with_reducible rfl); (· simp only [Act.put, List.setIfInBounds_toArray, List.set_cons_zero, List.set_cons_succ, kw64, kw32]; rfl))
  iterate 2 (refine sL (v := ?_) (a' := ?_) rfl rfl (by rfl) ?_ ?_ ?_; rotate_left 2; (· intro w1 hg; have c9 := (HO.up hg).cell 0 rfl; go_simp; with_reducible rfl); (· simp only [Act.put, List.setIfInBounds_toArray, List.set_cons_zero, List.set_cons_succ, kw64, kw32]; rfl))
  (refine sP (v := ?_) (a' := ?_) rfl rfl (by rfl) ?_ ?_ ?_; rotate_left 2; (· intro w'; go_simp; with_reducible rfl); (· simp only [Act.put, List.setIfInBounds_toArray, List.set_cons_zero, List.set_cons_succ, kw64, kw32]; rfl))
  (refine sP (v := .int .i64 (u2 : Int)) (a' := ?_) rfl rfl (by rfl) ?_ ?_ ?_; rotate_left 1; (· intro w'; go_simp; exact HMU.out); (· simp only [Act.put, List.setIfInBounds_toArray, List.set_cons_zero, List.set_cons_succ, kw64, kw32]; rfl))
  iterate 2 (refine sP (v := ?_) (a' := ?_) rfl rfl (by rfl) ?_ ?_ ?_; rotate_left 2; (· intro w'; go_simp; with_reducible rfl); (· simp only [Act.put, List.setIfInBounds_toArray, List.set_cons_zero, List.set_cons_succ, kw64, kw32]; rfl))
  (refine sC (v := ?_) (a' := ?_) Try.func15 rfl rfl (by rfl) rfl (by kernel_rfl) rfl (by rfl) ?_ ?_ ?_; rotate_left 2; (· intro w1 hg; exact HF.out w1); (· simp only [Act.put, List.setIfInBounds_toArray, List.set_cons_zero, List.set_cons_succ, kw64, kw32]; rfl))
  refine bone (i := 17) (N := none) #[true, true, true, true, true, true, true, true, true, true, true, true, true, true, true, true, true, true, false, false, false] rfl rfl (by kernel_rfl) HBS (fun w1 hg K hK => ?_)
  rw [if_pos (by rfl)]
  replace HO := HO.up hg
  have c0 := HO.cell 0 rfl 8
  have f0 := HO.frozen 0 rfl 8
  go_simp
  refine hK _ _ (in_ds (by decide) (bel_set (by have := HO.ge 0 rfl; exact this))) (fun HBS => ?_)
  replace HO := HO.set' 0 rfl 8 (.slice KP k2 kc) (L' := [(W.heap.size, .cells #[.string ow, .string pe, .string ro, .string se, .string re, .int .u64 (st : Int), .int .u64 (gt : Int), .int .u64 (pv : Int), .slice KP k2 kc, .slice U un uc] 36 (0, 0))]) rfl
  clear c0 f0 hg K hK
  revert HO HBS
  generalize World.setCell w1 _ _ = wb
  intro HBS HO
  refine bseqS (n := 2) s1RT 262143 524287 [524287] (by kernel_rfl) (.inl rfl) [(18, true, some 38)] #[true, true, true, true, true, true, true, true, true, true, true, true, true, true, true, true, true, true, true, false, false] HBS (by kernel_rfl) (by kernel_rfl) (by kernel_rfl) (by kernel_rfl) rfl (fun _ _ _ _ _ h => h) ?_
  (refine sP (v := ?_) (a' := ?_) rfl rfl (by rfl) ?_ ?_ ?_; rotate_left 2; (· intro w'; go_simp; with_reducible rfl); (· simp only [Act.put, List.setIfInBounds_toArray, List.set_cons_zero, List.set_cons_succ, kw64, kw32]; rfl))
  refine bone (i := 19) (N := none) #[true, true, true, true, true, true, true, true, true, true, true, true, true, true, true, true, true, true, true, true, false] rfl rfl (by kernel_rfl) HBS (fun w1 hg K hK => ?_)
  rw [if_pos (by rfl)]
  replace HO := HO.up hg
  have c0 := HO.cell 0 rfl 9
  have f0 := HO.frozen 0 rfl 9
  go_simp
  refine hK _ _ (in_ds (by decide) (bel_set (by have := HO.ge 0 rfl; exact this))) (fun HBS => ?_)
  replace HO := HO.set' 0 rfl 9 (.slice U u2 uc) (L' := [(W.heap.size, .cells #[.string ow, .string pe, .string ro, .string se, .string re, .int .u64 (st : Int), .int .u64 (gt : Int), .int .u64 (pv : Int), .slice KP k2 kc, .slice U u2 uc] 36 (0, 0))]) rfl
  clear c0 f0 hg K hK
  revert HO HBS
  generalize World.setCell w1 _ _ = wb
  intro HBS HO
  refine bseqS (n := 0) s1RT 1048575 2097151 [2097151] (by kernel_rfl) (.inl rfl) [(20, true, some 5)] #[true, true, true, true, true, true, true, true, true, true, true, true, true, true, true, true, true, true, true, true, true] HBS (by kernel_rfl) (by kernel_rfl) (by kernel_rfl) (by kernel_rfl) rfl (fun _ _ _ _ _ h => h) ?_
  (refine sP (v := ?_) (a' := ?_) rfl rfl (by rfl) ?_ ?_ ?_; rotate_left 2; (· intro w'; go_simp; with_reducible rfl); (· simp only [Act.put, List.setIfInBounds_toArray, List.set_cons_zero, List.set_cons_succ, kw64, kw32]; rfl))
  refine bdone (by kernel_rfl) (fun w1 hg => ?_)
  replace HO := HO.up hg
  clear hg HF HMK HMU HBS
  go_wp2_with (refine wpList_load_row rfl 36 (.tmp 6) rfl W.heap.size (by rfl) _ #[.string ow, .string pe, .string ro, .string se, .string re, .int .u64 (st : Int), .int .u64 (gt : Int), .int .u64 (pv : Int), .slice KP k2 kc, .slice U u2 uc] _ _ (HO.blk 0 rfl) Try.underlying36 rfl (by kernel_rfl) ?_)
  refine (HT.out _ HO.below).mono ?_
  rintro e w2 ⟨⟨v, rfl, hv⟩, hb⟩
  obtain ⟨Av, cv, rfl, hlv, hCv⟩ := Out_len hv HLN.out
  replace HO := HO.up hb
  have HCW := Lib.hid hCv
  clear hCv
  have HLV := Lib.hid hlv
  have HP := Own.start w2
  clear hb HT hv hlv
  replace HO := HO.alloc' (.cells #[.string ⟨#[]⟩, .string ⟨#[]⟩, .string ⟨#[]⟩, .string ⟨#[]⟩, .string ⟨#[]⟩, .int .u64 0, .int .u64 0, .int .u64 0, .slice none 0 0, .slice none 0 0] 36) rfl
  replace HP := HP.alloc' (.cells #[.string ⟨#[]⟩, .string ⟨#[]⟩, .string ⟨#[]⟩, .string ⟨#[]⟩, .string ⟨#[]⟩, .int .u64 0, .int .u64 0, .int .u64 0, .slice none 0 0, .slice none 0 0] 36) rfl
  go_wp2_with (refine wpList_store_row rfl 36 (.tmp 13) (.tmp 43) rfl w2.heap.size #[.string ow, .string pe, .string ro, .string se, .string re, .int .u64 (st : Int), .int .u64 (gt : Int), .int .u64 (pv : Int), .slice KP k2 kc, .slice (restA U uc nn) (u2 - nn) (uc - nn)] (by rfl) (by rfl) _ _ (HO.blk 0 rfl) (by kernel_rfl) rfl (sesC_one _ _ _ _ _ _ _ _ _ _ _ _ _ _) ?_)
  replace HO := HO.setRow 0 rfl #[.string ow, .string pe, .string ro, .string se, .string re, .int .u64 (st : Int), .int .u64 (gt : Int), .int .u64 (pv : Int), .slice KP k2 kc, .slice (restA U uc nn) (u2 - nn) (uc - nn)] (L' := [(w2.heap.size, .cells #[.string ow, .string pe, .string ro, .string se, .string re, .int .u64 (st : Int), .int .u64 (gt : Int), .int .u64 (pv : Int), .slice KP k2 kc, .slice (restA U uc nn) (u2 - nn) (uc - nn)] 36 (0, 0)), (W.heap.size, .cells #[.string ow, .string pe, .string ro, .string se, .string re, .int .u64 (st : Int), .int .u64 (gt : Int), .int .u64 (pv : Int), .slice KP k2 kc, .slice U u2 uc] 36 (0, 0))]) rfl
  replace HP := HP.setRow 0 rfl #[.string ow, .string pe, .string ro, .string se, .string re, .int .u64 (st : Int), .int .u64 (gt : Int), .int .u64 (pv : Int), .slice KP k2 kc, .slice (restA U uc nn) (u2 - nn) (uc - nn)] (L' := [(w2.heap.size, .cells #[.string ow, .string pe, .string ro, .string se, .string re, .int .u64 (st : Int), .int .u64 (gt : Int), .int .u64 (pv : Int), .slice KP k2 kc, .slice (restA U uc nn) (u2 - nn) (uc - nn)] 36 (0, 0))]) rfl
  refine (HFr.out _ HO.below).mono ?_
  rintro e w3 ⟨rfl, hb⟩
  replace HO := HO.up hb
  replace HP := HP.up hb
  clear hb HFr
  replace HO := HO.alloc' (.cells #[.int .i64 0, .int .u64 0, .int .u64 0, .int .u64 0, .string ⟨#[]⟩, .string ⟨#[]⟩, .int .u64 0, .int .u64 0, .string ⟨#[]⟩, .int .u64 0, .int .u64 0, .string ⟨#[]⟩, .slice none 0 0] 25) rfl
  replace HP := HP.alloc' (.cells #[.int .i64 0, .int .u64 0, .int .u64 0, .int .u64 0, .string ⟨#[]⟩, .string ⟨#[]⟩, .int .u64 0, .int .u64 0, .string ⟨#[]⟩, .int .u64 0, .int .u64 0, .string ⟨#[]⟩, .slice none 0 0] 25) rfl
  go_wp2_with (refine wpList_store_row rfl 25 (.tmp 16) (.tmp 52) rfl w3.heap.size #[.int .i64 0, .int .u64 0, .int .u64 0, .int .u64 0, .string ⟨#[]⟩, .string ⟨#[]⟩, .int .u64 0, .int .u64 0, .string ⟨#[]⟩, .int .u64 0, .int .u64 0, .string ⟨#[]⟩, .slice none 0 0] (by rfl) (by rfl) _ _ (HO.blk 0 rfl) (by kernel_rfl) rfl (frC_one _ _ _ _ _ _ _ _ _ _ _ _ _ _ _) ?_)
  replace HO := HO.setRow 0 rfl #[.int .i64 0, .int .u64 0, .int .u64 0, .int .u64 0, .string ⟨#[]⟩, .string ⟨#[]⟩, .int .u64 0, .int .u64 0, .string ⟨#[]⟩, .int .u64 0, .int .u64 0, .string ⟨#[]⟩, .slice none 0 0] (L' := [(w3.heap.size, .cells #[.int .i64 0, .int .u64 0, .int .u64 0, .int .u64 0, .string ⟨#[]⟩, .string ⟨#[]⟩, .int .u64 0, .int .u64 0, .string ⟨#[]⟩, .int .u64 0, .int .u64 0, .string ⟨#[]⟩, .slice none 0 0] 25 (0, 0)), (w2.heap.size, .cells #[.string ow, .string pe, .string ro, .string se, .string re, .int .u64 (st : Int), .int .u64 (gt : Int), .int .u64 (pv : Int), .slice KP k2 kc, .slice (restA U uc nn) (u2 - nn) (uc - nn)] 36 (0, 0)), (W.heap.size, .cells #[.string ow, .string pe, .string ro, .string se, .string re, .int .u64 (st : Int), .int .u64 (gt : Int), .int .u64 (pv : Int), .slice KP k2 kc, .slice U u2 uc] 36 (0, 0))]) rfl
  replace HP := HP.setRow 0 rfl #[.int .i64 0, .int .u64 0, .int .u64 0, .int .u64 0, .string ⟨#[]⟩, .string ⟨#[]⟩, .int .u64 0, .int .u64 0, .string ⟨#[]⟩, .int .u64 0, .int .u64 0, .string ⟨#[]⟩, .slice none 0 0] (L' := [(w3.heap.size, .cells #[.int .i64 0, .int .u64 0, .int .u64 0, .int .u64 0, .string ⟨#[]⟩, .string ⟨#[]⟩, .int .u64 0, .int .u64 0, .string ⟨#[]⟩, .int .u64 0, .int .u64 0, .string ⟨#[]⟩, .slice none 0 0] 25 (0, 0)), (w2.heap.size, .cells #[.string ow, .string pe, .string ro, .string se, .string re, .int .u64 (st : Int), .int .u64 (gt : Int), .int .u64 (pv : Int), .slice KP k2 kc, .slice (restA U uc nn) (u2 - nn) (uc - nn)] 36 (0, 0))]) rfl
  replace HO := HO.alloc' (.cells #[.int .i64 2, .int .u64 (a : Int), .int .u64 (b : Int), .int .u64 (c : Int), .string ⟨#[]⟩, .string ⟨#[]⟩, .int .u64 0, .int .u64 0, .string ⟨#[]⟩, .int .u64 0, .int .u64 0, .string ⟨#[]⟩, .slice A m cp] 25) (show _ = w3.heap.size + 1 by simp [size_setRow])
  replace HP := HP.alloc' (.cells #[.int .i64 2, .int .u64 (a : Int), .int .u64 (b : Int), .int .u64 (c : Int), .string ⟨#[]⟩, .string ⟨#[]⟩, .int .u64 0, .int .u64 0, .string ⟨#[]⟩, .int .u64 0, .int .u64 0, .string ⟨#[]⟩, .slice A m cp] 25) (show _ = w3.heap.size + 1 by simp [size_setRow])
  refine (HRF.out _ HO.below).mono ?_
  rintro e w4 ⟨rfl, hb⟩
  replace HO := HO.up hb
  replace HP := HP.up hb
  clear hb HRF
  have c0 := HO.cell 0 rfl
  have c1 := HO.cell 1 rfl
  go_wp2_with fail
  refine (HSm.out _ HO.below).mono ?_
  rintro e w5 ⟨rfl, hb⟩
  replace HO := HO.up hb
  replace HP := HP.up hb
  clear hb HSm c0 c1
  go_wp2_with fail
  refine (HAl.out _).mono ?_
  rintro e w6 ⟨rfl, hb⟩
  replace HO := HO.up hb
  replace HP := HP.up hb
  clear hb HAl
  go_wp2_with (refine wpList_load_row rfl 36 (.tmp 6) rfl W.heap.size (by rfl) _ #[.string ow, .string pe, .string ro, .string se, .string re, .int .u64 (st : Int), .int .u64 (gt : Int), .int .u64 (pv : Int), .slice KP k2 kc, .slice U u2 uc] _ _ (HO.blk 3 rfl) Try.underlying36 rfl (by kernel_rfl) ?_)
  refine (HRS.out _ HO.below).mono ?_
  rintro e w7 ⟨rfl, hb⟩
  replace HO := HO.up hb
  replace HP := HP.up hb
  clear hb HRS
  have i0 : (0 : Int) ≤ (mo : Int) := by omega
  have i1 : ¬ ((mo : Int) < 0) := by omega
  have i2 : ¬ ((mo : Int) > 32) := by omega
  have i3 : (0 : Int) ≤ (nn : Int) := by omega
  have i4 : (nn : Int) ≤ (uc : Int) := by omega
  have i5 : min (mo : Int) (u2 : Int) = (nn : Int) := by have := HN.out; omega
  have c3 := HO.cell 3 rfl
  have HCV := Lib.hid (fun w4 (hg : Gr w7 w4) => Kd.C_below (Kd.C_below HCW.out HP.below) hg)
  clear HCW HP
  have HQ := Lib.hid (show nn ≤ 400 ∧ nn ≤ uc ∧ u2 ≤ uc ∧ u2 ≤ 400 ∧ nn ≤ u2 by have := HU2.out; rw [List.length_take] at this; omega)
  go_wp2_with fail
  clear c3
  refine bstart (fun w => w.heap.size) (n := 63) (ds := []) #[false, false, false, false, false, false, false, false, false, false, false, false, false, false, false, false, false, false, false, false, false, false, false, false, false, false, false, false, false, false, false, false, false, false, false, false, false, false, false, false, false, false, false, false, false, false, false, false, false, false, false, false, false, false, false, false, false, false, false, false, false, false, false] (by kernel_rfl) rfl rfl (Nat.le_refl _) (fun HBS => ?_)
  refine bseqS (n := 47) s13RT 0 212991 [1, 3, 7, 15, 31, 95, 127, 255, 511, 1023, 2047, 4095, 8191, 73727, 81919, 212991] (by kernel_rfl) (.inl rfl) [(0, true, some 130), (1, true, some 131), (2, true, some 132), (3, true, some 133), (4, true, some 134), (6, true, some 136), (5, true, some 135), (7, true, some 137), (8, true, some 138), (9, true, some 139), (10, true, some 140), (11, true, some 141), (12, true, some 142), (16, true, some 146), (13, true, some 143), (17, true, some 147)] #[true, true, true, true, true, true, true, true, true, true, true, true, true, true, false, false, true, true, false, false, false, false, false, false, false, false, false, false, false, false, false, false, false, false, false, false, false, false, false, false, false, false, false, false, false, false, false, false, false, false, false, false, false, false, false, false, false, false, false, false, false, false, false] HBS (by kernel_rfl) (by kernel_rfl) (by kernel_rfl) (by kernel_rfl) rfl (fun _ _ _ _ _ h => h) ?_
  iterate 6 (refine sP (v := ?_) (a' := ?_) rfl rfl (by rfl) ?_ ?_ ?_; rotate_left 2; (· intro w'; go_simp; with_reducible rfl); (· simp only [Act.put, List.setIfInBounds_toArray, List.set_cons_zero, List.set_cons_succ, kw64, kw32]; rfl))
  (refine sB (v := ?_) (a' := ?_) rfl rfl (by rfl) ?_ ?_ ?_; rotate_left 2; (· intro w1 hg; have c9 := (HO.up hg).cell 3 rfl; have c8 := (HO.up hg).cell 2 rfl; go_simp; with_reducible rfl); (· simp only [Act.put, List.setIfInBounds_toArray, List.set_cons_zero, List.set_cons_succ, kw64, kw32]; rfl))
  (refine sP (v := ?_) (a' := ?_) rfl rfl (by rfl) ?_ ?_ ?_; rotate_left 2; (· intro w'; go_simp; with_reducible rfl); (· simp only [Act.put, List.setIfInBounds_toArray, List.set_cons_zero, List.set_cons_succ, kw64, kw32]; rfl))
  (refine sD (v := ?_) (a' := ?_) Try.func21 rfl rfl (by rfl) rfl (by kernel_rfl) rfl (by rfl) ?_ ?_ ?_; rotate_left 2; (· intro w1 hg; exact Texts_len _ nn HLN.out Av cv U uc w1 (HCV.out w1 hg) HLV.out (HCT.out w1 (HO.up hg).below) HQ.out.2.1 (by have := HQ.out; omega)); (· simp only [Act.put, List.setIfInBounds_toArray, List.set_cons_zero, List.set_cons_succ, kw64, kw32]; rfl))
  iterate 5 (refine sP (v := ?_) (a' := ?_) rfl rfl (by rfl) ?_ ?_ ?_; rotate_left 2; (· intro w'; go_simp; with_reducible rfl); (· simp only [Act.put, List.setIfInBounds_toArray, List.set_cons_zero, List.set_cons_succ, kw64, kw32]; rfl))
  iterate 2 (refine sB (v := ?_) (a' := ?_) rfl rfl (by rfl) ?_ ?_ ?_; rotate_left 2; (· intro w1 hg; have c9 := (HO.up hg).cell 3 rfl; have c8 := (HO.up hg).cell 2 rfl; go_simp; with_reducible rfl); (· simp only [Act.put, List.setIfInBounds_toArray, List.set_cons_zero, List.set_cons_succ, kw64, kw32]; rfl))
  refine bone (i := 14) (N := (some 144)) #[true, true, true, true, true, true, true, true, true, true, true, true, true, true, true, false, true, true, false, false, false, false, false, false, false, false, false, false, false, false, false, false, false, false, false, false, false, false, false, false, false, false, false, false, false, false, false, false, false, false, false, false, false, false, false, false, false, false, false, false, false, false, false] rfl rfl (by kernel_rfl) HBS (fun w1 hg K hK => ?_)
  rw [if_pos (by rfl)]
  have hcv := HCV.out w1 hg
  replace HO := HO.up hg
  have hz := HO.lt 0 rfl
  go_simp
  refine hK _ _ (not_ds (by decide) (below_alloc (Below.refl _ _) _)) (fun HBS => ?_)
  replace HCV := Lib.hid (Kd.C_below hcv (below_alloc (Below.refl _ _) (.cells #[.slice Av nn cv, .slice (restA U uc nn) (u2 - nn) (uc - nn)] 23)))
  replace HO := HO.alloc (.cells #[.slice Av nn cv, .slice (restA U uc nn) (u2 - nn) (uc - nn)] 23)
  have hga := Below.size hg
  clear hg K hK hz hcv
  generalize w1.alloc (.cells #[.slice Av nn cv, .slice (restA U uc nn) (u2 - nn) (uc - nn)] 23) = wa at *
  generalize w1.heap.size = ga at *
  refine bone (i := 15) (N := (some 145)) #[true, true, true, true, true, true, true, true, true, true, true, true, true, true, true, true, true, true, false, false, false, false, false, false, false, false, false, false, false, false, false, false, false, false, false, false, false, false, false, false, false, false, false, false, false, false, false, false, false, false, false, false, false, false, false, false, false, false, false, false, false, false, false] rfl rfl (by kernel_rfl) HBS (fun w1 hg K hK => ?_)
  rw [if_pos (by rfl)]
  replace HO := HO.up hg
  refine wp_call Try.func22 rfl (by kernel_rfl) rfl (by rfl) ((Concat_two ga Av nn cv _ (restA U uc nn) (u2 - nn) (uc - nn) _ w1 (HO.cell 0 rfl 0) (HO.cell 0 rfl 1) (Kd.C_below HCV.out hg) (HCR.out w1 HO.below) HQ.out.1 (by have := HQ.out; omega)).mono ?_)
  rintro e w2 ⟨⟨v2, rfl, hv2⟩, hb⟩
  rw [HLR.out] at hv2
  obtain ⟨A2, c2, rfl, hl2, hC2⟩ := Out_len hv2 HU2.out
  have HC2 := Lib.hid hC2
  have HL2 := Lib.hid hl2
  clear hv2 hC2 hl2
  refine ⟨_, rfl, hK _ _ (not_ds (by decide) hb) (fun HBS => ?_)⟩
  replace HO := HO.up hb
  refine at_dst (some 145) rfl ?_
  simp only [Act.put, List.setIfInBounds_toArray, List.set_cons_zero, List.set_cons_succ]
  refine bseqS (n := 0) s13RT 262143 9223372036854775807 [524287, 1048575, 2097151, 4194303, 12582911, 16777215, 33554431, 67108863, 134217727, 268435455, 536870911, 1610612735, 2147483647, 4294967295, 8589934591, 17179869183, 34359738367, 68719476735, 206158430207, 274877906943, 549755813887, 1099511627775, 2199023255551, 4398046511103, 8796093022207, 26388279066623, 35184372088831, 70368744177663, 140737488355327, 281474976710655, 562949953421311, 1125899906842623, 3377699720527871, 4503599627370495, 9007199254740991, 18014398509481983, 36028797018963967, 72057594037927935, 144115188075855871, 432345564227567615, 576460752303423487, 1152921504606846975, 2305843009213693951, 4611686018427387903, 9223372036854775807] (by kernel_rfl) (.inl rfl) [(18, false, some 148), (19, true, some 149), (20, true, some 150), (21, true, some 151), (23, true, some 153), (22, false, some 152), (24, false, some 154), (25, true, some 155), (26, true, some 156), (27, true, some 157), (28, true, some 158), (30, true, some 160), (29, false, some 159), (31, false, some 161), (32, true, some 162), (33, true, some 163), (34, true, some 164), (35, true, some 165), (37, true, some 167), (36, false, some 166), (38, false, some 168), (39, true, some 169), (40, true, some 170), (41, true, some 171), (42, true, some 172), (44, true, some 174), (43, false, some 173), (45, false, some 175), (46, true, some 176), (47, true, some 177), (48, true, some 178), (49, true, some 179), (51, true, some 181), (50, false, some 180), (52, false, some 182), (53, true, some 183), (54, true, some 184), (55, true, some 185), (56, true, some 186), (58, true, some 188), (57, false, some 187), (59, false, some 189), (60, true, some 190), (61, true, some 191), (62, true, some 12)] #[true, true, true, true, true, true, true, true, true, true, true, true, true, true, true, true, true, true, true, true, true, true, true, true, true, true, true, true, true, true, true, true, true, true, true, true, true, true, true, true, true, true, true, true, true, true, true, true, true, true, true, true, true, true, true, true, true, true, true, true, true, true, true] HBS (by kernel_rfl) (by kernel_rfl) (by kernel_rfl) (by kernel_rfl) rfl (fun _ _ _ _ _ h => h) ?_
  (refine sC (v := ?_) (a' := ?_) Try.func21 rfl rfl (by rfl) rfl (by kernel_rfl) rfl (by rfl) ?_ ?_ ?_; rotate_left 2; (· intro w1 hg; exact Texts_len _ u2 HU2.out A2 c2 U uc w1 (Kd.C_below HC2.out hg) HL2.out (HCU.out w1 (HO.up hg).below) (by have := HQ.out; omega) (by have := HQ.out; omega)); (· simp only [Act.put, List.setIfInBounds_toArray, List.set_cons_zero, List.set_cons_succ, kw64, kw32]; rfl))
  iterate 4 (refine sP (v := ?_) (a' := ?_) rfl rfl (by rfl) ?_ ?_ ?_; rotate_left 2; (· intro w'; go_simp; with_reducible rfl); (· simp only [Act.put, List.setIfInBounds_toArray, List.set_cons_zero, List.set_cons_succ, kw64, kw32]; rfl))
  iterate 2 (refine sL (v := ?_) (a' := ?_) rfl rfl (by rfl) ?_ ?_ ?_; rotate_left 2; (· intro w1 hg; have c9 := (HO.up hg).cell 4 rfl; have c8 := (HO.up hg).cell 3 rfl; go_simp; with_reducible rfl); (· simp only [Act.put, List.setIfInBounds_toArray, List.set_cons_zero, List.set_cons_succ, kw64, kw32]; rfl))
  iterate 5 (refine sP (v := ?_) (a' := ?_) rfl rfl (by rfl) ?_ ?_ ?_; rotate_left 2; (· intro w'; go_simp; with_reducible rfl); (· simp only [Act.put, List.setIfInBounds_toArray, List.set_cons_zero, List.set_cons_succ, kw64, kw32]; rfl))
  iterate 2 (refine sL (v := ?_) (a' := ?_) rfl rfl (by rfl) ?_ ?_ ?_; rotate_left 2; (· intro w1 hg; have c9 := (HO.up hg).cell 4 rfl; have c8 := (HO.up hg).cell 3 rfl; go_simp; with_reducible rfl); (· simp only [Act.put, List.setIfInBounds_toArray, List.set_cons_zero, List.set_cons_succ, kw64, kw32]; rfl))
  iterate 5 (refine sP (v := ?_) (a' := ?_) rfl rfl (by rfl) ?_ ?_ ?_; rotate_left 2; (· intro w'; go_simp; with_reducible rfl); (· simp only [Act.put, List.setIfInBounds_toArray, List.set_cons_zero, List.set_cons_succ, kw64, kw32]; rfl))
  iterate 2 (refine sL (v := ?_) (a' := ?_) rfl rfl (by rfl) ?_ ?_ ?_; rotate_left 2; (· intro w1 hg; have c9 := (HO.up hg).cell 4 rfl; have c8 := (HO.up hg).cell 3 rfl; go_simp; with_reducible rfl); (· simp only [Act.put, List.setIfInBounds_toArray, List.set_cons_zero, List.set_cons_succ, kw64, kw32]; rfl))
  iterate 5 (refine sP (v := ?_) (a' := ?_) rfl rfl (by rfl) ?_ ?_ ?_; rotate_left 2; (· intro w'; go_simp; with_reducible rfl); (· simp only [Act.put, List.setIfInBounds_toArray, List.set_cons_zero, List.set_cons_succ, kw64, kw32]; rfl))
  iterate 2 (refine sL (v := ?_) (a' := ?_) rfl rfl (by rfl) ?_ ?_ ?_; rotate_left 2; (· intro w1 hg; have c9 := (HO.up hg).cell 4 rfl; have c8 := (HO.up hg).cell 3 rfl; go_simp; with_reducible rfl); (· simp only [Act.put, List.setIfInBounds_toArray, List.set_cons_zero, List.set_cons_succ, kw64, kw32]; rfl))
  iterate 5 (refine sP (v := ?_) (a' := ?_) rfl rfl (by rfl) ?_ ?_ ?_; rotate_left 2; (· intro w'; go_simp; with_reducible rfl); (· simp only [Act.put, List.setIfInBounds_toArray, List.set_cons_zero, List.set_cons_succ, kw64, kw32]; rfl))
  iterate 2 (refine sL (v := ?_) (a' := ?_) rfl rfl (by rfl) ?_ ?_ ?_; rotate_left 2; (· intro w1 hg; have c9 := (HO.up hg).cell 4 rfl; have c8 := (HO.up hg).cell 3 rfl; go_simp; with_reducible rfl); (· simp only [Act.put, List.setIfInBounds_toArray, List.set_cons_zero, List.set_cons_succ, kw64, kw32]; rfl))
  iterate 5 (refine sP (v := ?_) (a' := ?_) rfl rfl (by rfl) ?_ ?_ ?_; rotate_left 2; (· intro w'; go_simp; with_reducible rfl); (· simp only [Act.put, List.setIfInBounds_toArray, List.set_cons_zero, List.set_cons_succ, kw64, kw32]; rfl))
  iterate 2 (refine sL (v := ?_) (a' := ?_) rfl rfl (by rfl) ?_ ?_ ?_; rotate_left 2; (· intro w1 hg; have c9 := (HO.up hg).cell 4 rfl; have c8 := (HO.up hg).cell 3 rfl; go_simp; with_reducible rfl); (· simp only [Act.put, List.setIfInBounds_toArray, List.set_cons_zero, List.set_cons_succ, kw64, kw32]; rfl))
  iterate 3 (refine sP (v := ?_) (a' := ?_) rfl rfl (by rfl) ?_ ?_ ?_; rotate_left 2; (· intro w'; go_simp; with_reducible rfl); (· simp only [Act.put, List.setIfInBounds_toArray, List.set_cons_zero, List.set_cons_succ, kw64, kw32]; rfl))
  refine bdone (by kernel_rfl) (fun w1 hg => ?_)
  replace HO := HO.up hg
  clear hg
  go_wp2
  go_ret
  exact ⟨rfl, HO.below⟩
theorem RevealTakes_walk (x : SesX) (mo : Int) (a b c : Nat) (A : Option Addr) (n cp : Nat) (ks : List ByteArray) (W : World) (hx : okSes W x) {p1 p2 p3 p4 p5 p6 : Prop} (_ : p1) (_ : p2) (_ : p3) (_ : p4) (hC : Kd.string.C W A n ks) (hl : n ≤ cp) (_ : p5) (_ : p6) :
    Calls Try.prog 4 #[.agg (encSes x).toArray, .int .i64 mo, .int .u64 (a : Int), .int .u64 (b : Int), .int .u64 (c : Int), .slice A n cp] W fun e W' => e = .returned (.bool true) ∧ Below W.heap.size W W' := by
  obtain ⟨⟨ow, pe, ro, se, re, st, gt, pv, kept, used⟩, KP, kn, kc, U, un, uc⟩ := x
  obtain ⟨h1, h2, h3, h4⟩ := hx
  dsimp only at *
  cases hf : rightF (keyF a b c (ks.take 34)) <;> cases hs : rightS ⟨ow, pe, ro, se, re, st, gt, pv, kept.take 22, used.take 42⟩
  · exact RT_arg_n ow pe ro se re st gt pv kept used ks KP kn kc U un uc A n cp mo a b c W h2 h1 h4 h3 hC hl hs hf
  · by_cases m1 : mo < 0
    · exact RT_lo_n ow pe ro se re st gt pv kept used ks KP kn kc U un uc A n cp mo a b c W h2 h1 h4 h3 hC hl hs hf m1
    · by_cases m2 : 32 < mo
      · exact RT_hi_n ow pe ro se re st gt pv kept used ks KP kn kc U un uc A n cp mo a b c W h2 h1 h4 h3 hC hl hs hf m2
      · obtain ⟨m, rfl⟩ := Int.eq_ofNat_of_zero_le (show 0 ≤ mo by omega)
        exact RT_yes_n ow pe ro se re st gt pv kept used ks KP kn kc U un uc A n cp m a b c W h2 h1 h4 h3 hC hl hs hf (by omega)
  · exact RT_arg_f ow pe ro se re st gt pv kept used ks KP kn kc U un uc A n cp mo a b c W h2 h1 h4 h3 hC hl hs hf
  · by_cases m1 : mo < 0
    · exact RT_lo_f ow pe ro se re st gt pv kept used ks KP kn kc U un uc A n cp mo a b c W h2 h1 h4 h3 hC hl hs hf m1
    · by_cases m2 : 32 < mo
      · exact RT_hi_f ow pe ro se re st gt pv kept used ks KP kn kc U un uc A n cp mo a b c W h2 h1 h4 h3 hC hl hs hf m2
      · obtain ⟨m, rfl⟩ := Int.eq_ofNat_of_zero_le (show 0 ≤ mo by omega)
        exact RT_yes_f ow pe ro se re st gt pv kept used ks KP kn kc U un uc A n cp m a b c W h2 h1 h4 h3 hC hl hs hf (by omega)
end Go.Proofs.Ytfghjahmnjghgaa

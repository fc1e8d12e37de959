import Derived.Test.YtnkfdpkjphbheaaSkG
import Derived.Test.YtnkfdpkjphbheaaSkP
set_option linter.unusedSimpArgs false
namespace Go.Proofs.Ytnkfdpkjphbheaa
open Go.RowKit Go.Proofs.YtnkfdpkjphbheaaW.PrintWords Go.Proofs.YtnkfdpkjphbheaaW.PrintLast
attribute [local irreducible] Calls
theorem put_same {xs : List KeptD} (h : rightK xs = true) (x : KeptD) : (if xs.length < 20 then xs else xs.drop 1) ++ [x] = putK xs x := by
  have := ((rightK_iff _).1 h).1
  unfold putK
  by_cases h20 : xs.length = 20
  · rw [if_neg (by omega), if_pos h20]
  · rw [if_pos (by omega), if_neg h20]
set_option maxHeartbeats 4000000 in
set_option maxRecDepth 100000 in
theorem SkippedTables_walk (A : Option Addr) (n c : Nat) (l : List KeptD) (A2 : Option Addr) (n2 c2 : Nat) (l2 : List KeptD) (x : KeptD) (s : ByteArray) (u : Nat) (w : World)
    (hc : Kd.C kK w A n l) (hnc : n ≤ c) (hcc : c ≤ 9223372036854775807) (_ : ∀ x ∈ l, x.n < 18446744073709551616)
    (hd : Kd.C kK w A2 n2 l2) (hnc2 : n2 ≤ c2) (_ : c2 ≤ 9223372036854775807) (_ : ∀ x ∈ l2, x.n < 18446744073709551616) (_ : x.n < 18446744073709551616) (_ : s.size ≤ 140737488351232) (_ : u < 18446744073709551616) :
    Calls Try.prog 5 #[.slice A n c, .slice A2 n2 c2, .agg #[.string x.r, .int .u64 x.n, .string x.k], .string s, .int .u64 u] w fun e w' => e = .returned (.bool true) ∧ Below w.heap.size w w' := by
  have hc' := C_take hc (min n 22) (by omega)
  have hd' := C_take hd (min n2 22) (by omega)
  have hmn : min n 22 ≤ c := by omega
  have hm22 : min n 22 ≤ 22 := by omega
  have hmn2 : min n2 22 ≤ c2 := by omega
  have hm222 : min n2 22 ≤ 22 := by omega
  generalize l.take (min n 22) = xs at hc'
  generalize l2.take (min n2 22) = ys at hd'
  have hb0 := below_alloc (Below.refl w.heap.size w) (.cells #[.string x.r, .int .u64 x.n, .string x.k] 28)
  have HC := Lib.hid (Kd.C_below hc' hb0)
  have HD := Lib.hid (Kd.C_below hd' hb0)
  have HL := Lib.hid hc'.1
  clear hc hc' hd hd'
  have g0 : (w.alloc (.cells #[.string x.r, .int .u64 x.n, .string x.k] 28)).cell? ⟨w.heap.size, 0, none⟩ = some (.string x.r) := by go_simp
  have g1 : (w.alloc (.cells #[.string x.r, .int .u64 x.n, .string x.k] 28)).cell? ⟨w.heap.size, 1, none⟩ = some (.int .u64 x.n) := by go_simp
  have g2 : (w.alloc (.cells #[.string x.r, .int .u64 x.n, .string x.k] 28)).cell? ⟨w.heap.size, 2, none⟩ = some (.string x.k) := by go_simp
  go_enter Try.func5, Try.ntmps5
  go_wp2_with fail
  refine (few12_any A n c _ hnc).mono ?_
  rintro e w1 ⟨rfl, rfl⟩
  go_wp2_with fail
  refine (few12_any A2 n2 c2 _ hnc2).mono ?_
  rintro e w1 ⟨rfl, rfl⟩
  generalize min n 22 = m at *
  generalize min n2 22 = m2 at *
  generalize hW : w.alloc (.cells #[.string x.r, .int .u64 x.n, .string x.k] 28) = W at *
  have G0 := Lib.hid g0
  have G1 := Lib.hid g1
  have G2 := Lib.hid g2
  go_wp2_with fail
  refine (Put_any A m c xs x _ HC.out hmn hcc (by omega)).mono ?_
  rintro e w2 ⟨⟨v, rfl, ho⟩, hb1⟩
  have HO := Lib.hid ho
  have hb := Lib.hid hb1
  clear ho hb1
  go_wp2_with fail
  refine (Take_any A m c xs s u _ (Kd.C_below HC.out hb.out) hmn hcc (by omega)).mono ?_
  rintro e w3 ⟨⟨v2, rfl, ho⟩, hb1⟩
  have HO2 := Lib.hid ho
  replace HO := Lib.hid (Out.below HO.out hb1)
  replace hb := Lib.hid (below_step hb.out hb1)
  clear ho hb1 g0 g1 g2
  generalize hR : rightK xs = R at *
  have HR := Lib.hid hR
  clear hR
  have HEQ := Lib.hid (rfl : decide (xs = ys) = decide (xs = ys))
  cases R
  · have hpE : putE xs x = 1 := by unfold putE; rw [if_pos HR.out]
    have htE : takeE xs s u = 1 := by unfold takeE; rw [if_pos HR.out]
    have htS : takeS xs s u = ⟨#[]⟩ := by unfold takeS; rw [if_neg (by rw [htE]; decide)]
    have htL : takeL xs s u = [] := by unfold takeL; rw [if_neg (by rw [htE]; decide)]
    rw [htL] at HO2
    rw [hpE] at HO
    rw [hpE, htE, htS]
    clear hpE htE htS htL
    have ho := HO.out
    rw [if_neg (by decide)] at ho
    obtain ⟨B, cb, rfl, _, _, _⟩ := ho
    obtain ⟨B2, cb2, rfl, _, _, _⟩ := HO2.out
    clear HO HO2
    generalize hq : decide (xs = ys) = q at *
    have HQ := Lib.hid hq
    clear hq HEQ
    go_wp2_with fail
    refine (Right_any A m c xs _ (Kd.C_below HC.out hb.out) hmn).mono ?_
    rw [HR.out]
    rintro e w4 ⟨rfl, hb1⟩
    replace hb := Lib.hid (below_step hb.out hb1)
    clear hb1
    go_wp2_with fail
    refine (RRight_any A m c xs _ (Kd.C_below HC.out hb.out) hmn (by omega)).mono ?_
    rw [HR.out]
    rintro e w5 ⟨rfl, hb1⟩
    replace hb := Lib.hid (below_step hb.out hb1)
    clear hb1
    go_wp2_with fail
    refine (Like12_any A m c xs A2 m2 c2 ys _ (Kd.C_below HC.out hb.out) hmn (Kd.C_below HD.out hb.out) hmn2 (by omega)).mono ?_
    rw [HQ.out]
    rintro e w6 ⟨rfl, hb1⟩
    replace hb := Lib.hid (below_step hb.out hb1)
    clear hb1
    go_wp2_with fail
    refine (Same12_any A m c xs A2 m2 c2 ys _ (Kd.C_below HC.out hb.out) hmn (Kd.C_below HD.out hb.out) hmn2 (by omega)).mono ?_
    rw [HQ.out]
    rintro e w7 ⟨rfl, hb1⟩
    replace hb := Lib.hid (below_step hb.out hb1)
    clear hb1
    go_wp2_with fail
    refine (Like12_any A m c xs A m c xs _ (Kd.C_below HC.out hb.out) hmn (Kd.C_below HC.out hb.out) hmn (by omega)).mono ?_
    rw [decide_eq_true rfl]
    rintro e w8 ⟨rfl, hb1⟩
    replace hb := Lib.hid (below_step hb.out hb1)
    clear hb1
    go_wp2_with fail
    refine (alive12_any _).mono ?_
    rintro e w9 ⟨rfl, hb1⟩
    replace hb := Lib.hid (below_step hb.out hb1)
    clear hb1
    go_wp2_with fail
    refine (RRight_any A m c xs _ (Kd.C_below HC.out hb.out) hmn (by omega)).mono ?_
    rw [HR.out]
    rintro e w10 ⟨rfl, hb1⟩
    replace hb := Lib.hid (below_step hb.out hb1)
    clear hb1
    go_wp2
    go_ret
    exact ⟨rfl, below_step hb0 hb.out⟩
  · obtain ⟨B2, cb2, rfl, t1, t2, t3⟩ := HO2.out
    have HT := Lib.hid t3
    clear HO2 t3
    generalize hq : decide (xs = ys) = q at *
    have HQ := Lib.hid hq
    clear hq HEQ
    go_wp2_with fail
    refine (Right_any A m c xs _ (Kd.C_below HC.out hb.out) hmn).mono ?_
    rw [HR.out]
    rintro e w4 ⟨rfl, hb1⟩
    replace HO := Lib.hid (Out.below HO.out hb1)
    replace HT := Lib.hid (Kd.C_below HT.out hb1)
    replace hb := Lib.hid (below_step hb.out hb1)
    clear hb1
    go_wp2_with fail
    refine (RRight_any A m c xs _ (Kd.C_below HC.out hb.out) hmn (by omega)).mono ?_
    rw [HR.out]
    rintro e w5 ⟨rfl, hb1⟩
    replace HO := Lib.hid (Out.below HO.out hb1)
    replace HT := Lib.hid (Kd.C_below HT.out hb1)
    replace hb := Lib.hid (below_step hb.out hb1)
    clear hb1
    go_wp2_with fail
    refine (Like12_any A m c xs A2 m2 c2 ys _ (Kd.C_below HC.out hb.out) hmn (Kd.C_below HD.out hb.out) hmn2 (by omega)).mono ?_
    rw [HQ.out]
    rintro e w6 ⟨rfl, hb1⟩
    replace HO := Lib.hid (Out.below HO.out hb1)
    replace HT := Lib.hid (Kd.C_below HT.out hb1)
    replace hb := Lib.hid (below_step hb.out hb1)
    clear hb1
    go_wp2_with fail
    refine (Same12_any A m c xs A2 m2 c2 ys _ (Kd.C_below HC.out hb.out) hmn (Kd.C_below HD.out hb.out) hmn2 (by omega)).mono ?_
    rw [HQ.out]
    rintro e w7 ⟨rfl, hb1⟩
    replace HO := Lib.hid (Out.below HO.out hb1)
    replace HT := Lib.hid (Kd.C_below HT.out hb1)
    replace hb := Lib.hid (below_step hb.out hb1)
    clear hb1
    go_wp2_with fail
    refine (Like12_any A m c xs A m c xs _ (Kd.C_below HC.out hb.out) hmn (Kd.C_below HC.out hb.out) hmn (by omega)).mono ?_
    rw [decide_eq_true rfl]
    rintro e w8 ⟨rfl, hb1⟩
    replace HO := Lib.hid (Out.below HO.out hb1)
    replace HT := Lib.hid (Kd.C_below HT.out hb1)
    replace hb := Lib.hid (below_step hb.out hb1)
    clear hb1
    go_wp2_with fail
    refine (alive12_any _).mono ?_
    rintro e w9 ⟨rfl, hb1⟩
    replace HO := Lib.hid (Out.below HO.out hb1)
    replace HT := Lib.hid (Kd.C_below HT.out hb1)
    replace hb := Lib.hid (below_step hb.out hb1)
    clear hb1
    go_wp2_with fail
    refine (RRight_any A m c xs _ (Kd.C_below HC.out hb.out) hmn (by omega)).mono ?_
    rw [HR.out]
    rintro e w10 ⟨rfl, hb1⟩
    replace HO := Lib.hid (Out.below HO.out hb1)
    replace HT := Lib.hid (Kd.C_below HT.out hb1)
    replace hb := Lib.hid (below_step hb.out hb1)
    clear hb1
    by_cases ha : atI xs s u < 0
    · have htE : takeE xs s u = 5 := by unfold takeE; rw [if_neg (by rw [HR.out]; decide), if_pos ha]
      have htS : takeS xs s u = ⟨#[]⟩ := by unfold takeS; rw [if_neg (by rw [htE]; decide)]
      have htL : takeL xs s u = [] := by unfold takeL; rw [if_neg (by rw [htE]; decide)]
      rw [htE, htS, htL]
      clear htE htS htL HT t1
      generalize hA0 : atI xs s u = a0 at *
      have HA0 := Lib.hid hA0
      clear hA0
      go_wp2_with fail
      refine (RAt_any A m c xs s u _ (Kd.C_below HC.out hb.out) hmn (by omega)).mono ?_
      rw [HA0.out]
      rintro e w11 ⟨rfl, hb1⟩
      replace HO := Lib.hid (Out.below HO.out hb1)
      replace hb := Lib.hid (below_step hb.out hb1)
      clear hb1
      cases hS : sizedK x
      · have HS := Lib.hid hS
        have hpE : putE xs x = 2 := by unfold putE; rw [if_neg (by rw [HR.out]; decide), if_pos hS]
        rw [hpE] at HO ⊢
        clear hpE hS
        have c0 := pw_cell_below hb.out G0.out
        have c1 := pw_cell_below hb.out G1.out
        have c2_ := pw_cell_below hb.out G2.out
        go_wp2_with fail
        refine (RSized_any x _).mono ?_
        rw [HS.out]
        rintro e w14 ⟨rfl, hb1⟩
        replace HO := Lib.hid (Out.below HO.out hb1)
        replace hb := Lib.hid (below_step hb.out hb1)
        clear hb1 c0 c1 c2_
        have ho := HO.out
        rw [if_neg (by decide)] at ho
        obtain ⟨B, cb, rfl, _, _, _⟩ := ho
        clear HO
        go_wp2
        go_ret
        exact ⟨rfl, below_step hb0 hb.out⟩
      · have HS := Lib.hid hS
        by_cases hA : 0 ≤ atI xs x.r x.n
        · have hpE : putE xs x = 7 := by unfold putE; rw [if_neg (by rw [HR.out]; decide), if_neg (by rw [hS]; decide), if_pos hA]
          rw [hpE] at HO ⊢
          clear hpE hS
          generalize hAI : atI xs x.r x.n = ai at *
          have HAI := Lib.hid hAI
          clear hAI
          have c0 := pw_cell_below hb.out G0.out
          have c1 := pw_cell_below hb.out G1.out
          have c2_ := pw_cell_below hb.out G2.out
          go_wp2_with fail
          refine (RSized_any x _).mono ?_
          rw [HS.out]
          rintro e w14 ⟨rfl, hb1⟩
          replace HO := Lib.hid (Out.below HO.out hb1)
          replace hb := Lib.hid (below_step hb.out hb1)
          clear hb1 c0 c1 c2_
          have c0 := pw_cell_below hb.out G0.out
          have c1 := pw_cell_below hb.out G1.out
          have c2_ := pw_cell_below hb.out G2.out
          go_wp2_with fail
          refine (RAt_any A m c xs x.r x.n _ (Kd.C_below HC.out hb.out) hmn (by omega)).mono ?_
          rw [HAI.out]
          rintro e w15 ⟨rfl, hb1⟩
          replace HO := Lib.hid (Out.below HO.out hb1)
          replace hb := Lib.hid (below_step hb.out hb1)
          clear hb1
          clear c0 c1 c2_
          have ho := HO.out
          rw [if_neg (by decide)] at ho
          obtain ⟨B, cb, rfl, _, _, _⟩ := ho
          clear HO
          go_wp2
          go_ret
          exact ⟨rfl, below_step hb0 hb.out⟩
        · have hpE : putE xs x = 0 := by unfold putE; rw [if_neg (by rw [HR.out]; decide), if_neg (by rw [hS]; decide), if_neg hA]
          rw [hpE] at HO ⊢
          clear hpE hS
          have hA' : atI xs x.r x.n < 0 := by omega
          generalize hAI : atI xs x.r x.n = ai at *
          have HAI := Lib.hid hAI
          clear hAI
          have c0 := pw_cell_below hb.out G0.out
          have c1 := pw_cell_below hb.out G1.out
          have c2_ := pw_cell_below hb.out G2.out
          go_wp2_with fail
          refine (RSized_any x _).mono ?_
          rw [HS.out]
          rintro e w14 ⟨rfl, hb1⟩
          replace HO := Lib.hid (Out.below HO.out hb1)
          replace hb := Lib.hid (below_step hb.out hb1)
          clear hb1 c0 c1 c2_
          have c0 := pw_cell_below hb.out G0.out
          have c1 := pw_cell_below hb.out G1.out
          have c2_ := pw_cell_below hb.out G2.out
          go_wp2_with fail
          refine (RAt_any A m c xs x.r x.n _ (Kd.C_below HC.out hb.out) hmn (by omega)).mono ?_
          rw [HAI.out]
          rintro e w15 ⟨rfl, hb1⟩
          replace HO := Lib.hid (Out.below HO.out hb1)
          replace hb := Lib.hid (below_step hb.out hb1)
          clear hb1
          have ho : Out kK _ v (putK xs x) := HO.out
          obtain ⟨B, cb, rfl, p1, p2, p3⟩ := ho
          have HP := Lib.hid p3
          clear HO p3
          have HPP := Lib.hid (put_same HR.out x)
          clear c0 c1 c2_
          have c0 := pw_cell_below hb.out G0.out
          have c1 := pw_cell_below hb.out G1.out
          have c2_ := pw_cell_below hb.out G2.out
          go_wp2_with fail
          refine (RPut_any A m c xs x _ (Kd.C_below HC.out hb.out) hmn (by omega)).mono ?_
          rw [HPP.out]
          rintro e w16 ⟨⟨v3, rfl, B3, cb3, rfl, r1, r2, r3⟩, hb1⟩
          have HP2 := Lib.hid r3
          replace HP := Lib.hid (Kd.C_below HP.out hb1)
          replace hb := Lib.hid (below_step hb.out hb1)
          have hpl : (putK xs x).length ≤ 1000 := by have hl := HL.out; unfold putK; rw [List.length_append]; split <;> (try rw [List.length_drop]) <;> simp <;> omega
          clear hb1 r3
          generalize putK xs x = ps at *
          go_wp2_with fail
          refine (Same12_any B _ cb ps B3 _ cb3 ps _ HP.out p1 HP2.out r1 hpl).mono ?_
          rw [decide_eq_true rfl]
          rintro e w17 ⟨rfl, hb1⟩
          go_wp2
          go_ret
          exact ⟨rfl, below_step (below_step hb0 hb.out) hb1⟩
    · have htE : takeE xs s u = 0 := by unfold takeE; rw [if_neg (by rw [HR.out]; decide), if_neg ha]
      obtain ⟨i, hi, hil⟩ := atI_lt xs s u (by omega)
      have htS : takeS xs s u = (xs.getD i default).k := by unfold takeS; rw [if_pos htE, hi]; rfl
      have htL : takeL xs s u = xs.take i ++ xs.drop (i + 1) := by unfold takeL; rw [if_pos htE, hi]; rfl
      have him : i < m := by rw [← HL.out]; exact hil
      obtain ⟨ad, p, eA, hp, d0, d1, d2⟩ := kK_at HC.out i him
      have D2 := Lib.hid d2
      rw [List.getD_eq_getElem?_getD, hp] at htS
      have htS' : takeS xs s u = p.k := htS
      rw [htL] at HT t1 ⊢
      rw [htE, htS']
      subst eA
      clear htE htS htL htS' d0 d1 d2 hp ha
      have HA0 := Lib.hid hi
      clear hi
      have hTL := Lib.hid (show (xs.take i ++ xs.drop (i + 1)).length ≤ 1000 by have hl := HL.out; rw [List.length_append, List.length_take, List.length_drop]; omega)
      have HWI := Lib.hid (fun W' (hh : Kd.C kK W' (some ad) m xs) => RWithout_any (some ad) m c xs i W' hh hmn (by omega) him)
      generalize xs.take i ++ xs.drop (i + 1) = ts at *
      go_wp2_with fail
      refine (RAt_any (some ad) m c xs s u _ (Kd.C_below HC.out hb.out) hmn (by omega)).mono ?_
      rw [HA0.out]
      rintro e w11 ⟨rfl, hb1⟩
      replace HO := Lib.hid (Out.below HO.out hb1)
      replace HT := Lib.hid (Kd.C_below HT.out hb1)
      replace hb := Lib.hid (below_step hb.out hb1)
      clear hb1
      have dd := pw_cell_below hb.out D2.out
      have z0 : (0 : Int) ≤ (i : Int) := by omega
      have z1 : (i : Int) < (m : Int) := by omega
      go_wp2_with fail
      refine (HWI.out _ (Kd.C_below HC.out hb.out)).mono ?_
      rintro e w12 ⟨⟨v3, rfl, B3, cb3, rfl, r1, r2, r3⟩, hb1⟩
      have HW3 := Lib.hid r3
      replace HT := Lib.hid (Kd.C_below HT.out hb1)
      replace HO := Lib.hid (Out.below HO.out hb1)
      replace hb := Lib.hid (below_step hb.out hb1)
      clear hb1 r3 dd
      go_wp2_with fail
      refine (Same12_any B2 _ cb2 ts B3 _ cb3 ts _ HT.out t1 HW3.out r1 hTL.out).mono ?_
      rw [decide_eq_true rfl]
      rintro e w13 ⟨rfl, hb1⟩
      replace HO := Lib.hid (Out.below HO.out hb1)
      replace hb := Lib.hid (below_step hb.out hb1)
      clear hb1 HT HW3 hTL HWI
      cases hS : sizedK x
      · have HS := Lib.hid hS
        have hpE : putE xs x = 2 := by unfold putE; rw [if_neg (by rw [HR.out]; decide), if_pos hS]
        rw [hpE] at HO ⊢
        clear hpE hS
        have c0 := pw_cell_below hb.out G0.out
        have c1 := pw_cell_below hb.out G1.out
        have c2_ := pw_cell_below hb.out G2.out
        go_wp2_with fail
        refine (RSized_any x _).mono ?_
        rw [HS.out]
        rintro e w14 ⟨rfl, hb1⟩
        replace HO := Lib.hid (Out.below HO.out hb1)
        replace hb := Lib.hid (below_step hb.out hb1)
        clear hb1 c0 c1 c2_
        have ho := HO.out
        rw [if_neg (by decide)] at ho
        obtain ⟨B, cb, rfl, _, _, _⟩ := ho
        clear HO
        go_wp2
        go_ret
        exact ⟨rfl, below_step hb0 hb.out⟩
      · have HS := Lib.hid hS
        by_cases hA : 0 ≤ atI xs x.r x.n
        · have hpE : putE xs x = 7 := by unfold putE; rw [if_neg (by rw [HR.out]; decide), if_neg (by rw [hS]; decide), if_pos hA]
          rw [hpE] at HO ⊢
          clear hpE hS
          generalize hAI : atI xs x.r x.n = ai at *
          have HAI := Lib.hid hAI
          clear hAI
          have c0 := pw_cell_below hb.out G0.out
          have c1 := pw_cell_below hb.out G1.out
          have c2_ := pw_cell_below hb.out G2.out
          go_wp2_with fail
          refine (RSized_any x _).mono ?_
          rw [HS.out]
          rintro e w14 ⟨rfl, hb1⟩
          replace HO := Lib.hid (Out.below HO.out hb1)
          replace hb := Lib.hid (below_step hb.out hb1)
          clear hb1 c0 c1 c2_
          have c0 := pw_cell_below hb.out G0.out
          have c1 := pw_cell_below hb.out G1.out
          have c2_ := pw_cell_below hb.out G2.out
          go_wp2_with fail
          refine (RAt_any (some ad) m c xs x.r x.n _ (Kd.C_below HC.out hb.out) hmn (by omega)).mono ?_
          rw [HAI.out]
          rintro e w15 ⟨rfl, hb1⟩
          replace HO := Lib.hid (Out.below HO.out hb1)
          replace hb := Lib.hid (below_step hb.out hb1)
          clear hb1
          clear c0 c1 c2_
          have ho := HO.out
          rw [if_neg (by decide)] at ho
          obtain ⟨B, cb, rfl, _, _, _⟩ := ho
          clear HO
          go_wp2
          go_ret
          exact ⟨rfl, below_step hb0 hb.out⟩
        · have hpE : putE xs x = 0 := by unfold putE; rw [if_neg (by rw [HR.out]; decide), if_neg (by rw [hS]; decide), if_neg hA]
          rw [hpE] at HO ⊢
          clear hpE hS
          have hA' : atI xs x.r x.n < 0 := by omega
          generalize hAI : atI xs x.r x.n = ai at *
          have HAI := Lib.hid hAI
          clear hAI
          have c0 := pw_cell_below hb.out G0.out
          have c1 := pw_cell_below hb.out G1.out
          have c2_ := pw_cell_below hb.out G2.out
          go_wp2_with fail
          refine (RSized_any x _).mono ?_
          rw [HS.out]
          rintro e w14 ⟨rfl, hb1⟩
          replace HO := Lib.hid (Out.below HO.out hb1)
          replace hb := Lib.hid (below_step hb.out hb1)
          clear hb1 c0 c1 c2_
          have c0 := pw_cell_below hb.out G0.out
          have c1 := pw_cell_below hb.out G1.out
          have c2_ := pw_cell_below hb.out G2.out
          go_wp2_with fail
          refine (RAt_any (some ad) m c xs x.r x.n _ (Kd.C_below HC.out hb.out) hmn (by omega)).mono ?_
          rw [HAI.out]
          rintro e w15 ⟨rfl, hb1⟩
          replace HO := Lib.hid (Out.below HO.out hb1)
          replace hb := Lib.hid (below_step hb.out hb1)
          clear hb1
          have ho : Out kK _ v (putK xs x) := HO.out
          obtain ⟨B, cb, rfl, p1, p2, p3⟩ := ho
          have HP := Lib.hid p3
          clear HO p3
          have HPP := Lib.hid (put_same HR.out x)
          clear c0 c1 c2_
          have c0 := pw_cell_below hb.out G0.out
          have c1 := pw_cell_below hb.out G1.out
          have c2_ := pw_cell_below hb.out G2.out
          go_wp2_with fail
          refine (RPut_any (some ad) m c xs x _ (Kd.C_below HC.out hb.out) hmn (by omega)).mono ?_
          rw [HPP.out]
          rintro e w16 ⟨⟨v3, rfl, B3, cb3, rfl, r1, r2, r3⟩, hb1⟩
          have HP2 := Lib.hid r3
          replace HP := Lib.hid (Kd.C_below HP.out hb1)
          replace hb := Lib.hid (below_step hb.out hb1)
          have hpl : (putK xs x).length ≤ 1000 := by have hl := HL.out; unfold putK; rw [List.length_append]; split <;> (try rw [List.length_drop]) <;> simp <;> omega
          clear hb1 r3
          generalize putK xs x = ps at *
          go_wp2_with fail
          refine (Same12_any B _ cb ps B3 _ cb3 ps _ HP.out p1 HP2.out r1 hpl).mono ?_
          rw [decide_eq_true rfl]
          rintro e w17 ⟨rfl, hb1⟩
          go_wp2
          go_ret
          exact ⟨rfl, below_step (below_step hb0 hb.out) hb1⟩
end Go.Proofs.Ytnkfdpkjphbheaa

import Derived.Test.YtnkfdpkjphbheaaSkG
import Derived.Test.YtnkfdpkjphbheaaSkP
set_option linter.unusedSimpArgs false
namespace Go.Proofs.Ytnkfdpkjphbheaa
open Go.RowKit Go.Proofs.YtnkfdpkjphbheaaW.PrintWords Go.Proofs.YtnkfdpkjphbheaaW.PrintLast
theorem eqA28 (d : Nat) (w : World) (x0 y0 : ByteArray) (x1 y1 : Int) (x2 y2 : ByteArray) :
    (Op.equalIn (d + 2) 28 (.agg #[.string x0, .int .u64 x1, .string x2]) (.agg #[.string y0, .int .u64 y1, .string y2])).run Try.prog w = .ok (x0.toList == y0.toList && (x1 == y1 && x2.toList == y2.toList)) w :=
  PSkippedTables.eqA28 d w x0 y0 x1 y1 x2 y2
attribute [local go_sem high] eqA28
attribute [local irreducible] Calls
set_option maxHeartbeats 1000000 in
theorem SkippedOnce_walk (A : Option Addr) (n c : Nat) (l : List KeptD) (x : KeptD) (w : World) (hc : Kd.C kK w A n l) (hnc : n ≤ c) (hcc : c ≤ 9223372036854775807) (_ : ∀ x ∈ l, x.n < 18446744073709551616) (_ : x.n < 18446744073709551616) :
    Calls Try.prog 4 #[.slice A n c, .agg #[.string x.r, .int .u64 x.n, .string x.k]] w fun e w' => e = .returned (.bool true) ∧ Below w.heap.size w w' := by
  have hc' := C_take hc (min n 22) (by omega)
  have hmn : min n 22 ≤ c := by omega
  have hm22 : min n 22 ≤ 22 := by omega
  generalize hxs : l.take (min n 22) = xs at hc'
  have hb0 := below_alloc (Below.refl w.heap.size w) (.cells #[.string x.r, .int .u64 x.n, .string x.k] 28)
  have HC := Lib.hid (Kd.C_below hc' hb0)
  have hHC0 := Lib.hid hc'.1
  clear hc hc' hxs
  have g0 : (w.alloc (.cells #[.string x.r, .int .u64 x.n, .string x.k] 28)).cell? ⟨w.heap.size, 0, none⟩ = some (.string x.r) := by go_simp
  have g1 : (w.alloc (.cells #[.string x.r, .int .u64 x.n, .string x.k] 28)).cell? ⟨w.heap.size, 1, none⟩ = some (.int .u64 x.n) := by go_simp
  have g2 : (w.alloc (.cells #[.string x.r, .int .u64 x.n, .string x.k] 28)).cell? ⟨w.heap.size, 2, none⟩ = some (.string x.k) := by go_simp
  go_enter Try.func4, Try.ntmps4
  go_wp2_with fail
  refine (few12_any A n c _ hnc).mono ?_
  rintro e w1 ⟨rfl, rfl⟩
  generalize min n 22 = m at *
  generalize hW : w.alloc (.cells #[.string x.r, .int .u64 x.n, .string x.k] 28) = W at *
  have G0 := Lib.hid g0
  have G1 := Lib.hid g1
  have G2 := Lib.hid g2
  go_wp2_with fail
  refine (Put_any A m c xs x _ HC.out hmn hcc (by omega)).mono ?_
  rintro e w2 ⟨⟨v, rfl, ho⟩, hb1⟩
  by_cases hE : putE xs x = 0
  · obtain ⟨q1, q2, q3, q4, q5, q6, q7, q8⟩ := once_more hE
    rw [if_pos hE] at ho
    rw [hE]
    clear hE
    have Q6 := Lib.hid q6
    have Q7 := Lib.hid q7
    clear q6 q7
    obtain ⟨B, cb, rfl, h1, h2, h3⟩ := ho
    have HP := Lib.hid h3
    have hbk := Lib.hid hb1
    have hlp := Lib.hid (show (putK xs x).length = (restK xs).length + 1 by rw [putK_eq]; simp)
    have hl21 : (putK xs x).length ≤ 1000 := by rw [hlp.out]; unfold restK; split <;> (try rw [List.length_drop]) <;> omega
    have hrl : (restK xs).length ≤ 20 := by unfold restK; split <;> (try rw [List.length_drop]) <;> omega
    have HPL := Lib.hid (show (putK xs x)[(restK xs).length]? = some x by rw [putK_eq]; simp)
    have HRK := Lib.hid (show restK xs = if xs.length = 20 then xs.drop 1 else xs from rfl)
    generalize putK xs x = ps at *
    generalize restK xs = rs at *
    clear h3 hb1
    have k0 := Lib.hid (pw_cell_below hbk.out G0.out)
    have k1 := Lib.hid (pw_cell_below hbk.out G1.out)
    have k2 := Lib.hid (pw_cell_below hbk.out G2.out)
    have c0 := k0.out
    have c1 := k1.out
    have c2 := k2.out
    go_wp2_with fail
    refine (Take_any B _ cb ps x.r x.n _ HP.out h1 h2 (by omega)).mono ?_
    rintro e w3 ⟨⟨v, rfl, ho⟩, hb2⟩
    rw [q1, q2]
    rw [q3] at ho
    obtain ⟨B2, cb2, rfl, h4, h5, h6⟩ := ho
    have HM := Lib.hid h6
    have hb := Lib.hid hb2
    have HB := Lib.hid (below_step (below_step hb0 hbk.out) hb2)
    clear h6 hb2 c0 c1 c2
    have c0 := pw_cell_below hb.out k0.out
    have c1 := pw_cell_below hb.out k1.out
    have c2 := pw_cell_below hb.out k2.out
    go_wp2_with fail
    refine (Take_any B2 _ cb2 rs x.r x.n _ HM.out h4 h5 (by omega)).mono ?_
    rintro e w4 ⟨⟨v, rfl, ho⟩, hb2⟩
    rw [q4]
    clear ho
    replace HM := Lib.hid (Kd.C_below HM.out hb2)
    replace HB := Lib.hid (below_step HB.out hb2)
    replace hb := Lib.hid (below_step hb.out hb2)
    clear hb2 c0 c1 c2
    have c0 := pw_cell_below hb.out k0.out
    have c1 := pw_cell_below hb.out k1.out
    have c2 := pw_cell_below hb.out k2.out
    go_wp2_with fail
    refine (Put_any B _ cb ps x _ (Kd.C_below HP.out hb.out) h1 h2 (by omega)).mono ?_
    rintro e w5 ⟨⟨v, rfl, ho⟩, hb2⟩
    rw [q5]
    clear ho
    replace HM := Lib.hid (Kd.C_below HM.out hb2)
    replace HB := Lib.hid (below_step HB.out hb2)
    replace hb := Lib.hid (below_step hb.out hb2)
    clear hb2 c0 c1 c2
    have HX := Lib.hid (show xs.length = m from hHC0.out)
    by_cases hm : m = 20
    · obtain ⟨ad, eA, _⟩ := HC.out.2.2 (by omega)
      subst eA
      have HD := Lib.hid (Kd.C_below (show kK.C W (some ⟨ad.block, ad.off + 3, none⟩) (m - 1) (xs.drop 1) from C_drop HC.out 1 (by omega)) (below_step hbk.out hb.out))
      have HR := Lib.hid (show xs.drop 1 = rs by rw [HRK.out, HX.out, if_pos hm])
      rw [HR.out] at HD
      subst hm
      have k0' := Lib.hid (pw_cell_below hb.out k0.out)
      have k1' := Lib.hid (pw_cell_below hb.out k1.out)
      have k2' := Lib.hid (pw_cell_below hb.out k2.out)
      have HP' := Lib.hid (Kd.C_below HP.out hb.out)
      clear k0 k1 k2 hb hbk G0 G1 G2 HC HP q1 q2 q3 q4 q5
      have hc1 : (19 : Int) ≤ ((c - 1 : Nat) : Int) := by omega
      go_wp2_with fail
      obtain ⟨adp, p, eB, hp, d0, d1, d2⟩ := kK_at HP'.out rs.length (by rw [hlp.out]; omega)
      subst eB
      obtain rfl : x = p := by
        have := HPL.out
        rw [hp] at this
        injection this with this
        exact this.symm
      rw [hlp.out] at HP' h1 ⊢
      have e0 := k0'.out
      have e1 := k1'.out
      have e2 := k2'.out
      generalize rs.length = q at *
      clear hp
      have u0 : (0 : Int) ≤ (q : Int) := by omega
      have u1 : (q : Int) < (q : Int) + 1 := by omega
      have u1' : (q : Int) < ((q + 1 : Nat) : Int) := by omega
      have u2 : IntKind.i64.wrap ((q : Int) + 1 - 1) = q := by rw [i64_w]; unfold Go.RowKit.wrap64; omega
      have u3 : IntKind.i64.wrap (((q + 1 : Nat) : Int) - 1) = q := by rw [i64_w]; unfold Go.RowKit.wrap64; omega
      have u4 : IntKind.i64.wrap (q : Int) = q := by rw [i64_w]; unfold Go.RowKit.wrap64; omega
      go_region_held3 (fun w' => w'.cell? ⟨w.heap.size, 0, none⟩ = some (.string x.r) ∧ w'.cell? ⟨w.heap.size, 1, none⟩ = some (.int .u64 x.n) ∧ w'.cell? ⟨w.heap.size, 2, none⟩ = some (.string x.k) ∧ w'.cell? (adp.add (q * 3)) = some (.string x.r) ∧ w'.cell? ⟨(adp.add (q * 3)).block, (adp.add (q * 3)).off + 1, none⟩ = some (.int .u64 x.n) ∧ w'.cell? ⟨(adp.add (q * 3)).block, (adp.add (q * 3)).off + 2, none⟩ = some (.string x.k))
        (first | go_keep | exact keep6 hbD (by assumption) | exact keep6 hbC (by assumption) | exact keep6 hbB (by assumption) | exact keep6 hbA (by assumption))
        (first | (go_at_call 12; refine (alive12_any _).mono ?_; rintro e wA ⟨rfl, hbA⟩) | (go_at_call 14; refine (Right_any (some adp) (q + 1) cb ps _ (Kd.C_below HP'.out (below_step (below_drew (Below.refl _ _)) hbA)) h1).mono ?_; rw [Q7.out]; rintro e wB ⟨rfl, hbB⟩) | (go_at_call 14; refine (Right_any B2 q cb2 rs _ (Kd.C_below HM.out (below_step (below_step (below_drew (Below.refl _ _)) hbA) hbB)) h4).mono ?_; rw [Q6.out]; rintro e wC ⟨rfl, hbC⟩) | (go_at_call 15; refine (Same12_any B2 q cb2 rs (some ⟨ad.block, ad.off + 3, none⟩) 19 (c - 1) rs _ (Kd.C_below HM.out (below_step (below_step (below_step (below_drew (Below.refl _ _)) hbA) hbB) hbC)) h4 (Kd.C_below HD.out (below_step (below_step (below_step (below_drew (Below.refl _ _)) hbA) hbB) hbC)) (by omega) (by omega)).mono ?_; rw [decide_eq_true rfl]; rintro e wD ⟨rfl, hbD⟩))
      go_wp2
      go_ret
      refine ⟨ret_congr ?_, below_step (below_step (below_step (below_step (below_drew HB.out) hbA) hbB) hbC) hbD⟩
      simp
    · have HD := Lib.hid (Kd.C_below HC.out (below_step hbk.out hb.out))
      have HR := Lib.hid (show xs = rs by rw [HRK.out, HX.out, if_neg hm])
      rw [HR.out] at HD
      have hm' : ((m : Int) == 20) = false := by simp; omega
      have hm2 : ¬ ((m : Int) = 20) := by omega
      have k0' := Lib.hid (pw_cell_below hb.out k0.out)
      have k1' := Lib.hid (pw_cell_below hb.out k1.out)
      have k2' := Lib.hid (pw_cell_below hb.out k2.out)
      have HP' := Lib.hid (Kd.C_below HP.out hb.out)
      clear k0 k1 k2 hb hbk G0 G1 G2 HC HP q1 q2 q3 q4 q5
      go_wp2_with fail
      obtain ⟨adp, p, eB, hp, d0, d1, d2⟩ := kK_at HP'.out rs.length (by rw [hlp.out]; omega)
      subst eB
      obtain rfl : x = p := by
        have := HPL.out
        rw [hp] at this
        injection this with this
        exact this.symm
      rw [hlp.out] at HP' h1 ⊢
      have e0 := k0'.out
      have e1 := k1'.out
      have e2 := k2'.out
      generalize rs.length = q at *
      clear hp
      have u0 : (0 : Int) ≤ (q : Int) := by omega
      have u1 : (q : Int) < (q : Int) + 1 := by omega
      have u1' : (q : Int) < ((q + 1 : Nat) : Int) := by omega
      have u2 : IntKind.i64.wrap ((q : Int) + 1 - 1) = q := by rw [i64_w]; unfold Go.RowKit.wrap64; omega
      have u3 : IntKind.i64.wrap (((q + 1 : Nat) : Int) - 1) = q := by rw [i64_w]; unfold Go.RowKit.wrap64; omega
      have u4 : IntKind.i64.wrap (q : Int) = q := by rw [i64_w]; unfold Go.RowKit.wrap64; omega
      go_region_held3 (fun w' => w'.cell? ⟨w.heap.size, 0, none⟩ = some (.string x.r) ∧ w'.cell? ⟨w.heap.size, 1, none⟩ = some (.int .u64 x.n) ∧ w'.cell? ⟨w.heap.size, 2, none⟩ = some (.string x.k) ∧ w'.cell? (adp.add (q * 3)) = some (.string x.r) ∧ w'.cell? ⟨(adp.add (q * 3)).block, (adp.add (q * 3)).off + 1, none⟩ = some (.int .u64 x.n) ∧ w'.cell? ⟨(adp.add (q * 3)).block, (adp.add (q * 3)).off + 2, none⟩ = some (.string x.k))
        (first | go_keep | exact keep6 hbD (by assumption) | exact keep6 hbC (by assumption) | exact keep6 hbB (by assumption) | exact keep6 hbA (by assumption))
        (first | (go_at_call 12; refine (alive12_any _).mono ?_; rintro e wA ⟨rfl, hbA⟩) | (go_at_call 14; refine (Right_any (some adp) (q + 1) cb ps _ (Kd.C_below HP'.out (below_step (below_drew (Below.refl _ _)) hbA)) h1).mono ?_; rw [Q7.out]; rintro e wB ⟨rfl, hbB⟩) | (go_at_call 14; refine (Right_any B2 q cb2 rs _ (Kd.C_below HM.out (below_step (below_step (below_drew (Below.refl _ _)) hbA) hbB)) h4).mono ?_; rw [Q6.out]; rintro e wC ⟨rfl, hbC⟩) | (go_at_call 15; refine (Same12_any B2 q cb2 rs A m c rs _ (Kd.C_below HM.out (below_step (below_step (below_step (below_drew (Below.refl _ _)) hbA) hbB) hbC)) h4 (Kd.C_below HD.out (below_step (below_step (below_step (below_drew (Below.refl _ _)) hbA) hbB) hbC)) (by omega) (by omega)).mono ?_; rw [decide_eq_true rfl]; rintro e wD ⟨rfl, hbD⟩))
      go_wp2
      go_ret
      refine ⟨ret_congr ?_, below_step (below_step (below_step (below_step (below_drew HB.out) hbA) hbB) hbC) hbD⟩
      simp
  · rw [if_neg hE] at ho
    obtain ⟨B, cb, rfl, h1, h2, h3⟩ := ho
    have hE' : (putE xs x == 0) = false := by simpa using hE
    clear h3
    generalize putE xs x = E at *
    have hb := Lib.hid hb1
    clear hb1
    go_wp2_with fail
    refine (alive12_any _).mono ?_
    rintro e w3 ⟨rfl, hb2⟩
    go_wp2
    go_ret
    exact ⟨rfl, below_step (below_step hb0 hb.out) hb2⟩
end Go.Proofs.Ytnkfdpkjphbheaa

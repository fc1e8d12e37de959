import Derived.Test.YtnkfdpkjphbheaaWire
import Derived.Test.YtnkfdpkjphbheaaWireL
import Derived.Test.YtnkfdpkjphbheaaWireR
namespace Go.Proofs.Ytnkfdpkjphbheaa
open Go.RowKit Go.Proofs.YtnkfdpkjphbheaaW.PrintWords

set_option maxHeartbeats 1000000 in
theorem WireRises_walk (n m : Nat) (w : World) (hn : n < 18446744073709551616) (hm : m < 18446744073709551616) :
    Calls Try.prog 3 #[.int .u64 n, .int .u64 m] w fun e w' => e = .returned (.bool true) ∧ Below w.heap.size w w' := by
  have h1 := rises1 n m hn hm
  have h2 := rises2 n m hn hm
  have h3 := numS_size n hn
  have h5 : decide (((numS n).size : Int) ≤ 9) = true := decide_eq_true (by omega)
  have h4 : 1 ≤ (numS n).size := by rw [← data_length, numS_data, numL_length]; omega
  go_enter Try.func3, Try.ntmps3
  go_wp2_with fail
  refine (Number_any n _ hn).mono ?_
  rintro e w1 ⟨rfl, hb1⟩
  go_wp2_with fail
  refine (Number_any m _ hm).mono ?_
  rintro e w2 ⟨rfl, hb2⟩
  go_wp2_with fail
  refine (alive_any _).mono ?_
  rintro e w3 ⟨rfl, hb3⟩
  go_wp2
  go_ret
  exact ⟨rfl, below_step (below_step hb1 hb2) hb3⟩

theorem few_C {A : Option Addr} {n : Nat} {xs : List PartD} {w : World} (h : kP.C w A n xs) : kP.C w A (min n 12) (xs.take 12) := by
  obtain ⟨h1, h2, h3⟩ := h
  refine ⟨by simp; omega, by omega, fun hp => ?_⟩
  obtain ⟨ad, e, hc⟩ := h3 (by omega)
  exact ⟨ad, e, fun j p hj => hc j p (by rw [List.getElem?_take] at hj; split at hj <;> first | exact hj | cases hj)⟩

def packS (ps : List PartD) : ByteArray := if ps.any longP then ⟨#[]⟩ else ⟨(packL ps).toArray⟩
def packE (ps : List PartD) : Int := if ps.any longP then 2 else 0
theorem packV_eq (ps : List PartD) : packV ps = .tuple #[.string (packS ps), .int .i64 (packE ps)] := by
  unfold packV packS packE; split <;> rfl
def textS (s : ByteArray) : ByteArray := if 1024 < s.size then ⟨#[]⟩ else oneS ⟨true, 0, s⟩
def textE (s : ByteArray) : Int := if 1024 < s.size then 2 else 0
theorem Text_any (s : ByteArray) (w : World) :
    Calls Try.prog 24 #[.string s] w fun e w' => e = .returned (.tuple #[.string (textS s), .int .i64 (textE s)]) ∧ Below w.heap.size w w' := by
  by_cases h : 1024 < s.size
  · refine (Text_no s w h).mono ?_
    rintro e w' ⟨rfl, rfl⟩
    refine ⟨?_, Below.refl _ _⟩
    unfold textS textE; rw [if_pos h, if_pos h]
  · refine (Text_yes s w (by omega)).mono ?_
    rintro e w' ⟨rfl, hb⟩
    refine ⟨?_, hb⟩
    unfold textS textE; rw [if_neg h, if_neg h]; rfl
theorem ROne_text (s : ByteArray) (w : World) (hs : ¬ 1024 < s.size) :
    Calls Try.prog 28 #[.agg #[.bool true, .int .u64 0, .string s]] w fun e w' => e = .returned (.string (oneS ⟨true, 0, s⟩)) ∧ Below w.heap.size w w' :=
  ROne_any ⟨true, 0, s⟩ w (by show 0 < _; omega) (by simp [longP]; omega)
theorem Pack_any2 (A : Option Addr) (n c : Nat) (ps : List PartD) (w : World) (hc : Kd.C kP w A n ps) (hn : n ≤ 1000000) (hw : ∀ p ∈ ps, p.n < 18446744073709551616) :
    Calls Try.prog 23 #[.slice A n c] w fun e w' => e = .returned (.tuple #[.string (packS ps), .int .i64 (packE ps)]) ∧ Below w.heap.size w w' := by
  rw [← packV_eq]; exact Pack_any A n c ps w hc hn hw
theorem likeP_refl (p : PartD) : likeP p p = true := by cases p with | mk t n s => cases t <;> simp [likeP]
theorem like_refl (xs : List PartD) : (xs.length == xs.length && (xs.zip xs).all fun p => likeP p.1 p.2) = true := by
  simp only [beq_self_eq_true, Bool.true_and, List.all_eq_true]
  intro x hx
  obtain ⟨i, hi⟩ := List.getElem?_of_mem hx
  rw [List.getElem?_zip_eq_some] at hi
  have : x.1 = x.2 := Option.some.inj (hi.1.symm.trans hi.2)
  rw [this]; exact likeP_refl _

set_option maxHeartbeats 2000000 in
theorem WirePacks_walk (n : Nat) (s : ByteArray) (a2 : Option Addr) (len2 cap2 : Nat) (l2 : List PartD) (a3 : Option Addr) (len3 cap3 : Nat) (l3 : List PartD) (w : World) (hn : n < 18446744073709551616) (hs : s.size ≤ 140737488351232)
    (hC2 : kP.C w a2 len2 l2) (hl2 : len2 ≤ cap2) (_ : cap2 ≤ 9223372036854775807) (hw2 : ∀ x ∈ l2, x.n < 18446744073709551616) (hC3 : kP.C w a3 len3 l3) (hl3 : len3 ≤ cap3) (_ : cap3 ≤ 9223372036854775807) (_hw3 : ∀ x ∈ l3, x.n < 18446744073709551616) :
    Calls Try.prog 7 #[.int .u64 n, .string s, .slice a2 len2 cap2, .slice a3 len3 cap3] w fun e w' => e = .returned (.bool true) ∧ Below w.heap.size w w' := by
  have hD2 := few_C hC2
  have hD3 := few_C hC3
  have hv2 : ∀ x ∈ l2.take 12, x.n < 18446744073709551616 := fun x hx => hw2 x (List.mem_of_mem_take hx)
  generalize l2.take 12 = l at hD2 hv2
  generalize l3.take 12 = m at hD3
  have hk2 : min len2 12 ≤ 12 := by omega
  have hk3 : min len3 12 ≤ 12 := by omega
  have HF2 := Lib.hid (few_any a2 len2 cap2 w hl2)
  have HF3 := Lib.hid (few_any a3 len3 cap3 w hl3)
  generalize min len2 12 = n2 at hD2 hk2 HF2
  generalize min len3 12 = n3 at hD3 hk3 HF3
  clear hC2 hC3 hw2 _hw3 l2 l3
  have hrefl := Lib.hid (like_refl l)
  generalize hq : (l.length == m.length && (l.zip m).all fun p => likeP p.1 p.2) = q
  have HQ := Lib.hid hq
  clear hq
  have HD2 := Lib.hid hD2
  have HD3 := Lib.hid hD3
  have HV2 := Lib.hid hv2
  clear hD2 hD3 hv2
  have facts : Hid ((∃ b : Bool, l.any longP = b ∧ (b = true → packE l = 2 ∧ packS l = ⟨#[]⟩) ∧ (b = false → packE l = 0 ∧ packS l = ⟨(packL l).toArray⟩ ∧ ∀ p ∈ l, longP p = false ∧ p.n < 18446744073709551616))) := by
    refine ⟨_, rfl, fun h => ?_, fun h => ?_⟩
    · unfold packE packS; rw [if_pos h, if_pos h]; exact ⟨rfl, rfl⟩
    · unfold packE packS; rw [if_neg (by rw [h]; decide), if_neg (by rw [h]; decide)]
      exact ⟨rfl, rfl, fun p hp => ⟨by simpa using List.any_eq_false.1 h p hp, HV2.out p hp⟩⟩
  go_enter Try.func7, Try.ntmps7
  go_wp2_with fail
  refine HF2.out.mono ?_
  rintro e w1 ⟨rfl, rfl⟩
  go_wp2_with fail
  refine HF3.out.mono ?_
  rintro e w1 ⟨rfl, rfl⟩
  go_wp2_with fail
  refine (Text_any s _).mono ?_
  rintro e w2 ⟨rfl, hb0⟩
  go_wp2_with fail
  refine (Pack_any2 a2 n2 cap2 l _ (Kd.C_below HD2.out hb0) (by omega) HV2.out).mono ?_
  rintro e w3 ⟨rfl, hb1⟩
  have hb := Lib.hid (below_step hb0 hb1)
  clear hb0 hb1
  go_wp2_with fail
  refine (Number_any n _ hn).mono ?_
  rintro e w4 ⟨rfl, hb1⟩
  replace hb := Lib.hid (below_step hb.out hb1)
  go_wp2_with fail
  refine (RNumber_any n _ hn).mono ?_
  rintro e w5 ⟨rfl, hb2⟩
  replace hb := Lib.hid (below_step hb.out hb2)
  go_wp2_with fail
  refine (Like_any a2 a3 n2 cap2 n3 cap3 l m _ (Kd.C_below HD2.out hb.out) (Kd.C_below HD3.out hb.out)).mono ?_
  rw [HQ.out]
  rintro e w6 ⟨rfl, hb3⟩
  replace hb := Lib.hid (below_step hb.out hb3)
  go_wp2_with fail
  refine (RSame_any a2 a3 n2 cap2 n3 cap3 l m _ (Kd.C_below HD2.out hb.out) (Kd.C_below HD3.out hb.out)).mono ?_
  rw [HQ.out]
  rintro e w7 ⟨rfl, hb4⟩
  replace hb := Lib.hid (below_step hb.out hb4)
  go_wp2_with fail
  refine (Like_any a2 a2 n2 cap2 n2 cap2 l l _ (Kd.C_below HD2.out hb.out) (Kd.C_below HD2.out hb.out)).mono ?_
  rw [hrefl.out]
  rintro e w8 ⟨rfl, hb5⟩
  replace hb := Lib.hid (below_step hb.out hb5)
  go_wp2_with fail
  refine (alive_any _).mono ?_
  rintro e w9 ⟨rfl, hb6⟩
  replace hb := Lib.hid (below_step hb.out hb6)
  clear hb1 hb2 hb3 hb4 hb5 hb6
  obtain ⟨B, hB, hBt, hBf⟩ := facts.out
  have HB := Lib.hid hB
  clear facts hB
  cases B
  · obtain ⟨hE, hS, hno⟩ := hBf rfl
    have HNO := Lib.hid hno
    clear hno hBt hBf
    by_cases hl : 1024 < s.size
    · have hl' : (1024 : Int) < s.size := by omega
      have hTe : textE s = 2 := by unfold textE; rw [if_pos hl]
      have hTs : textS s = ⟨#[]⟩ := by unfold textS; rw [if_pos hl]
      go_wp2_with fail
      refine (RLong_any a2 n2 cap2 l _ (Kd.C_below HD2.out hb.out)).mono ?_
      rw [HB.out]
      rintro e w10 ⟨rfl, hb7⟩
      replace hb := Lib.hid (below_step hb.out hb7)
      go_wp2_with fail
      refine (RPack_any a2 n2 cap2 l _ (Kd.C_below HD2.out hb.out) (by omega) HNO.out).mono ?_
      rintro e w11 ⟨rfl, hb8⟩
      replace hb := Lib.hid (below_step hb.out hb8)
      go_wp2
      go_ret
      exact ⟨rfl, hb.out⟩
    · have hl' : (s.size : Int) ≤ 1024 := by omega
      have hTe : textE s = 0 := by unfold textE; rw [if_neg hl]
      have hTs : textS s = oneS ⟨true, 0, s⟩ := by unfold textS; rw [if_neg hl]
      have HL := Lib.hid hl
      clear hl
      go_wp2_with fail
      refine (ROne_text s _ HL.out).mono ?_
      rintro e w12 ⟨rfl, hb9⟩
      replace hb := Lib.hid (below_step hb.out hb9)
      go_wp2_with fail
      refine (RLong_any a2 n2 cap2 l _ (Kd.C_below HD2.out hb.out)).mono ?_
      rw [HB.out]
      rintro e w10 ⟨rfl, hb7⟩
      replace hb := Lib.hid (below_step hb.out hb7)
      go_wp2_with fail
      refine (RPack_any a2 n2 cap2 l _ (Kd.C_below HD2.out hb.out) (by omega) HNO.out).mono ?_
      rintro e w11 ⟨rfl, hb8⟩
      replace hb := Lib.hid (below_step hb.out hb8)
      go_wp2
      go_ret
      exact ⟨rfl, hb.out⟩
  · obtain ⟨hE, hS⟩ := hBt rfl
    clear hBt hBf
    by_cases hl : 1024 < s.size
    · have hl' : (1024 : Int) < s.size := by omega
      have hTe : textE s = 2 := by unfold textE; rw [if_pos hl]
      have hTs : textS s = ⟨#[]⟩ := by unfold textS; rw [if_pos hl]
      go_wp2_with fail
      refine (RLong_any a2 n2 cap2 l _ (Kd.C_below HD2.out hb.out)).mono ?_
      rw [HB.out]
      rintro e w10 ⟨rfl, hb7⟩
      replace hb := Lib.hid (below_step hb.out hb7)
      go_wp2
      go_ret
      exact ⟨rfl, hb.out⟩
    · have hl' : (s.size : Int) ≤ 1024 := by omega
      have hTe : textE s = 0 := by unfold textE; rw [if_neg hl]
      have hTs : textS s = oneS ⟨true, 0, s⟩ := by unfold textS; rw [if_neg hl]
      have HL := Lib.hid hl
      clear hl
      go_wp2_with fail
      refine (ROne_text s _ HL.out).mono ?_
      rintro e w12 ⟨rfl, hb9⟩
      replace hb := Lib.hid (below_step hb.out hb9)
      go_wp2_with fail
      refine (RLong_any a2 n2 cap2 l _ (Kd.C_below HD2.out hb.out)).mono ?_
      rw [HB.out]
      rintro e w10 ⟨rfl, hb7⟩
      replace hb := Lib.hid (below_step hb.out hb7)
      go_wp2
      go_ret
      exact ⟨rfl, hb.out⟩
theorem info51 : (Try.prog.info? 51).map (fun i => (i.zero, i.size, i.bytes)) = some (some (.agg #[.bool false, .int .u64 0, .string ⟨#[]⟩]), 3, 32) := by kernel_rfl

theorem join_facts (l m : List PartD) (h2 : l.length ≤ 12) (h3 : m.length ≤ 12) (v2 : ∀ x ∈ l, x.n < 18446744073709551616) (v3 : ∀ x ∈ m, x.n < 18446744073709551616) :
    ((packE l = 0 ∧ packE m = 0 ∧ packE (l ++ m) = 0 ∧ packS (l ++ m) = packS l ++ packS m ∧ (packS l).size ≤ 100000 ∧ (packS m).size ≤ 100000) ∨ ((packE l = 2 ∨ packE l = 0 ∧ packE m = 2) ∧ packE (l ++ m) = 2 ∧ packS (l ++ m) = ⟨#[]⟩)) := by
  have size : ∀ q : List PartD, q.length ≤ 12 → (∀ x ∈ q, x.n < 18446744073709551616) → q.any longP = false → (⟨(packL q).toArray⟩ : ByteArray).size ≤ 100000 := by
    intro q hq hv hn
    have := packL_len q (fun p hp => ⟨by simpa using List.any_eq_false.1 hn p hp, hv p hp⟩)
    show (packL q).toArray.size ≤ 100000
    rw [List.size_toArray]; omega
  unfold packE packS
  rw [List.any_append]
  cases hl : l.any longP
  · cases hm : m.any longP
    · refine .inl ⟨by simp, by simp, by simp, ?_, ?_, ?_⟩
      · simp [packL, mk_append]
      · simpa using size l h2 v2 hl
      · simpa using size m h3 v3 hm
    · exact .inr ⟨.inr ⟨by simp, by simp⟩, by simp, by simp⟩
  · exact .inr ⟨.inl (by simp), by simp, by simp⟩
set_option maxHeartbeats 2000000 in
theorem WireJoins_walk (a2 : Option Addr) (len2 cap2 : Nat) (l2 : List PartD) (a3 : Option Addr) (len3 cap3 : Nat) (l3 : List PartD) (w : World)
    (hC2 : kP.C w a2 len2 l2) (hl2 : len2 ≤ cap2) (_ : cap2 ≤ 9223372036854775807) (hw2 : ∀ x ∈ l2, x.n < 18446744073709551616) (hC3 : kP.C w a3 len3 l3) (hl3 : len3 ≤ cap3) (_ : cap3 ≤ 9223372036854775807) (hw3 : ∀ x ∈ l3, x.n < 18446744073709551616) :
    Calls Try.prog 6 #[.slice a2 len2 cap2, .slice a3 len3 cap3] w fun e w' => e = .returned (.bool true) ∧ Below w.heap.size w w' := by
  have hD2 := few_C hC2
  have hD3 := few_C hC3
  have hv2 : ∀ x ∈ l2.take 12, x.n < 18446744073709551616 := fun x hx => hw2 x (List.mem_of_mem_take hx)
  have hv3 : ∀ x ∈ l3.take 12, x.n < 18446744073709551616 := fun x hx => hw3 x (List.mem_of_mem_take hx)
  generalize l2.take 12 = l at hD2 hv2
  generalize l3.take 12 = m at hD3 hv3
  have hk2 : min len2 12 ≤ 12 := by omega
  have hk3 : min len3 12 ≤ 12 := by omega
  have HF2 := Lib.hid (few_any a2 len2 cap2 w hl2)
  have HF3 := Lib.hid (few_any a3 len3 cap3 w hl3)
  generalize min len2 12 = n2 at hD2 hk2 HF2
  generalize min len3 12 = n3 at hD3 hk3 HF3
  clear hC2 hC3 hw2 hw3 l2 l3
  have HD2 := Lib.hid hD2
  have HD3 := Lib.hid hD3
  have HV2 := Lib.hid hv2
  have HV3 := Lib.hid hv3
  clear hD2 hD3 hv2 hv3
  go_enter Try.func6, Try.ntmps6
  go_wp2_with fail
  refine HF2.out.mono ?_
  rintro e w1 ⟨rfl, rfl⟩
  go_wp2_with fail
  refine HF3.out.mono ?_
  rintro e w1 ⟨rfl, rfl⟩
  go_wp2_with fail
  refine (Pack_any2 a2 n2 cap2 l _ HD2.out (by omega) HV2.out).mono ?_
  rintro e w2 ⟨rfl, hb1⟩
  have hb := Lib.hid hb1
  clear hb1
  go_wp2_with fail
  refine (Pack_any2 a3 n3 cap3 m _ (Kd.C_below HD3.out hb.out) (by omega) HV3.out).mono ?_
  rintro e w3 ⟨rfl, hb1⟩
  replace hb := Lib.hid (below_step hb.out hb1)
  clear hb1
  have HB0 := Aside0.mk (below_alloc hb.out (.cells #[] 51))
  have HR0 := Aside0.mk (R_empty_lit kP w3 w.heap.size 51 hb.out.size)
  have HL2 := Lib.hid HD2.out.1
  have HL3 := Lib.hid HD3.out.1
  go_wp2_with (first | ((with_reducible refine gate_builtin (b := .append) (xs := #[.tmp 26, .tmp 27]) rfl ?_); at_builtin; refine app_rows kP (w0 := w) (.tmp 26) (.tmp 27) 43 51 (.agg #[.bool false, .int .u64 0, .string ⟨#[]⟩]) 32 rfl rfl Try.underlying43 info51 rfl (by decide) (by decide) (fun _ _ h => h) _ _ l a2 n2 cap2 rfl rfl HR0 (Kd.C_below HD2.out HB0.out) HB0 ?c1 ?_; (case c1 => simp; omega); intro v1 w4 HR1 HB1 _) | ((with_reducible refine gate_builtin (b := .append) (xs := #[.tmp 28, .tmp 29]) rfl ?_); at_builtin; refine app_rows kP (w0 := w) (.tmp 28) (.tmp 29) 43 51 (.agg #[.bool false, .int .u64 0, .string ⟨#[]⟩]) 32 rfl rfl Try.underlying43 info51 rfl (by decide) (by decide) (fun _ _ h => h) _ _ m a3 n3 cap3 rfl rfl HR1 (Kd.C_below HD3.out HB1.out) HB1 ?c1 ?_; (case c1 => have := HL2.out; simp; omega); intro v2 w5 HR2 HB2 _))
  obtain ⟨A2, C2, rfl, hle, hr⟩ := Kd.R_reads HR2.out
  have hlen : (([] ++ l ++ m).length) ≤ 1000000 := by have := HL2.out; have := HL3.out; simp; omega
  refine (Pack_any2 A2 _ C2 _ _ hr hlen ?_).mono ?_
  · intro x hx
    rcases List.mem_append.1 hx with hx | hx
    · exact HV2.out x (by simpa using hx)
    · exact HV3.out x hx
  rintro e w6 ⟨rfl, hb1⟩
  replace hb := Lib.hid (below_step HB2.out hb1)
  clear hb1 hr hle HR2 HB2 HB1 HR1 HB0 HR0
  rw [List.nil_append]
  have facts : Hid ((packE l = 0 ∧ packE m = 0 ∧ packE (l ++ m) = 0 ∧ packS (l ++ m) = packS l ++ packS m ∧ (packS l).size ≤ 100000 ∧ (packS m).size ≤ 100000) ∨ ((packE l = 2 ∨ packE l = 0 ∧ packE m = 2) ∧ packE (l ++ m) = 2 ∧ packS (l ++ m) = ⟨#[]⟩)) := join_facts l m (by have := HL2.out; omega) (by have := HL3.out; omega) HV2.out HV3.out
  generalize packE l = e1 at facts ⊢
  generalize packE m = e2 at facts ⊢
  generalize packE (l ++ m) = e3 at facts ⊢
  generalize packS (l ++ m) = s3 at facts ⊢
  generalize packS l = s1 at facts ⊢
  generalize packS m = s2 at facts ⊢
  rcases facts.out with ⟨rfl, rfl, rfl, rfl, h1, h2⟩ | ⟨rfl | ⟨rfl, rfl⟩, rfl, rfl⟩
  all_goals
    clear facts
    go_wp2_with fail
    refine (alive_any _).mono ?_
    rintro e w7 ⟨rfl, hb1⟩
    replace hb := Lib.hid (below_step hb.out hb1)
    go_wp2
    go_ret
    exact ⟨rfl, hb.out⟩
end Go.Proofs.Ytnkfdpkjphbheaa

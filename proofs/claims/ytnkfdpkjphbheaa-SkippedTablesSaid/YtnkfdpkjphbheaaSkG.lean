import Derived.Test.YtnkfdpkjphbheaaSkF
set_option linter.unusedSimpArgs false
namespace Go.Proofs.Ytnkfdpkjphbheaa
open Go.RowKit Go.Proofs.YtnkfdpkjphbheaaW.PrintWords Go.Proofs.YtnkfdpkjphbheaaW.PrintLast
theorem Same12_any (A : Option Addr) (n c : Nat) (xs : List KeptD) (B : Option Addr) (m cb : Nat) (ys : List KeptD) (w : World) (h1 : Kd.C kK w A n xs) (hc : n ≤ c) (h2 : Kd.C kK w B m ys) (hcb : m ≤ cb) (hn : n ≤ 1000) :
    Calls Try.prog 15 #[.slice A n c, .slice B m cb] w fun e w' => e = .returned (.bool (decide (xs = ys))) ∧ Below w.heap.size w w' := by
  have e1 := h1.1
  have e2 := h2.1
  subst e1; subst e2
  have := PSkippedTables.demurralref12_Same.calls (xs.length + 1) A c (xs.map toS) B cb (ys.map toS) (decide (xs = ys)) w (by rw [List.length_map]; exact C_toS h1) (by rw [List.length_map]; exact hc) (by rw [List.length_map]; exact C_toS h2) (by rw [List.length_map]; exact hcb) (sameS xs ys hn)
  rw [List.length_map, List.length_map] at this
  exact this.mono fun _ _ h => ⟨h.1, h.2.below⟩
theorem Like12_any (A : Option Addr) (n c : Nat) (xs : List KeptD) (B : Option Addr) (m cb : Nat) (ys : List KeptD) (w : World) (h1 : Kd.C kK w A n xs) (hc : n ≤ c) (h2 : Kd.C kK w B m ys) (hcb : m ≤ cb) (hn : n ≤ 1000) :
    Calls Try.prog 17 #[.slice A n c, .slice B m cb] w fun e w' => e = .returned (.bool (decide (xs = ys))) ∧ Below w.heap.size w w' := by
  have e1 := h1.1
  have e2 := h2.1
  subst e1; subst e2
  have := PSkippedTables.skipped_Like.calls (xs.length + 1) A c (xs.map toS) B cb (ys.map toS) (decide (xs = ys)) w (by rw [List.length_map]; exact C_toS h1) (by rw [List.length_map]; exact hc) (by rw [List.length_map]; exact C_toS h2) (by rw [List.length_map]; exact hcb) (likeS xs ys hn)
  rw [List.length_map, List.length_map] at this
  exact this.mono fun _ _ h => ⟨h.1, h.2.below⟩
theorem RAt_any (A : Option Addr) (n c : Nat) (xs : List KeptD) (r : ByteArray) (m : Nat) (w : World) (h1 : Kd.C kK w A n xs) (hc : n ≤ c) (hn : n ≤ 1000) :
    Calls Try.prog 18 #[.slice A n c, .string r, .int .u64 m] w fun e w' => e = .returned (.int .i64 (atI xs r m)) ∧ Below w.heap.size w w' := by
  have e1 := h1.1
  subst e1
  have := PSkippedTables.demurralref12_At.calls (xs.length + 1) A c (xs.map toS) r m (atI xs r m) w (by rw [List.length_map]; exact C_toS h1) (by rw [List.length_map]; exact hc) (atS xs r m _ hn (by omega))
  rw [List.length_map] at this
  exact this
theorem RRight_any (A : Option Addr) (n c : Nat) (xs : List KeptD) (w : World) (h1 : Kd.C kK w A n xs) (hc : n ≤ c) (hn : n ≤ 1000) :
    Calls Try.prog 16 #[.slice A n c] w fun e w' => e = .returned (.bool (rightK xs)) ∧ Below w.heap.size w w' := by
  have e1 := h1.1
  subst e1
  have := PSkippedTables.demurralref12_Right.calls (2 * xs.length + 1) A c (xs.map toS) (rightK xs) w (by rw [List.length_map]; exact C_toS h1) (by rw [List.length_map]; exact hc) (rightS xs hn)
  rw [List.length_map] at this
  exact this
theorem RSized_any (x : KeptD) (w : World) :
    Calls Try.prog 20 #[.agg #[.string x.r, .int .u64 x.n, .string x.k]] w fun e w' => e = .returned (.bool (sizedK x)) ∧ Below w.heap.size w w' :=
  PSkippedTables.demurralref12_Sized.calls _ _ _ _ w (sizedS x)
theorem RWithout_any (A : Option Addr) (n c : Nat) (xs : List KeptD) (a : Nat) (w : World) (h1 : Kd.C kK w A n xs) (hc : n ≤ c) (hn : n ≤ 1000) (ha : a < n) :
    Calls Try.prog 19 #[.slice A n c, .int .i64 a] w fun e w' => (∃ v, e = .returned v ∧ Out kK w' v (xs.take a ++ xs.drop (a + 1))) ∧ Below w.heap.size w w' := by
  have e1 := h1.1
  subst e1
  have := PSkippedTables.demurralref12_Without.calls (xs.length + 1) A c (xs.map toS) a _ w (by rw [List.length_map]; exact C_toS h1) (by rw [List.length_map]; exact hc) (withoutS xs a hn ha)
  rw [List.length_map] at this
  refine this.mono ?_
  rintro e w' ⟨v, rfl, hr, hb⟩
  exact ⟨⟨v, rfl, Out_ofS (R_Out hr)⟩, hb⟩
theorem RPut_any (A : Option Addr) (n c : Nat) (xs : List KeptD) (x : KeptD) (w : World) (h1 : Kd.C kK w A n xs) (hc : n ≤ c) (hn : n ≤ 1000) :
    Calls Try.prog 21 #[.slice A n c, .agg #[.string x.r, .int .u64 x.n, .string x.k]] w fun e w' => (∃ v, e = .returned v ∧ Out kK w' v ((if xs.length < 20 then xs else xs.drop 1) ++ [x])) ∧ Below w.heap.size w w' := by
  have e1 := h1.1
  subst e1
  have := PSkippedTables.demurralref12_Put.calls (xs.length + 1) A c (xs.map toS) x.r x.n x.k _ w (by rw [List.length_map]; exact C_toS h1) (by rw [List.length_map]; exact hc) (putS xs x hn)
  rw [List.length_map] at this
  refine this.mono ?_
  rintro e w' ⟨v, rfl, hr, hb⟩
  exact ⟨⟨v, rfl, Out_ofS (R_Out hr)⟩, hb⟩

def key12 : ByteArray := ⟨#[48, 49, 50, 51, 52, 53, 54, 55, 56, 57, 97, 98, 99, 100, 101, 102, 48, 49, 50, 51, 52, 53, 54, 55, 56, 57, 97, 98, 99, 100, 101, 102]⟩
theorem alive_put : putE [] ⟨key12, 3, key12⟩ = 0 := by decide +kernel
theorem alive_putK : putK [] ⟨key12, 3, key12⟩ = [⟨key12, 3, key12⟩] := rfl
theorem alive_takeE : takeE [⟨key12, 3, key12⟩] key12 3 = 0 := by decide +kernel
theorem alive_takeS : takeS [⟨key12, 3, key12⟩] key12 3 = key12 := by decide +kernel
theorem alive_takeL : takeL [⟨key12, 3, key12⟩] key12 3 = [] := by decide +kernel
set_option maxHeartbeats 1000000 in
theorem alive12_any (w : World) : Calls Try.prog 12 #[] w fun e w' => e = .returned (.bool true) ∧ Below w.heap.size w w' := by
  go_enter Try.func12, Try.ntmps12
  go_wp2_with fail
  refine (Put_any none 0 0 [] ⟨key12, 3, key12⟩ w (Kd.C_nil kK w) (Nat.le_refl _) (by omega) (by omega)).mono ?_
  rintro e w1 ⟨⟨v, rfl, ho⟩, hb1⟩
  rw [alive_put] at ho ⊢
  rw [if_pos rfl, alive_putK] at ho
  obtain ⟨A, c, rfl, h1, h2, h3⟩ := ho
  have HC := Lib.hid h3
  clear h3
  go_wp2_with fail
  refine (Take_any A 1 c [⟨key12, 3, key12⟩] key12 3 w1 HC.out h1 h2 (by omega)).mono ?_
  rintro e w2 ⟨⟨v, rfl, ho⟩, hb2⟩
  rw [alive_takeE, alive_takeS]
  rw [alive_takeL] at ho
  obtain ⟨A2, c2, rfl, h4, h5, h6⟩ := ho
  have h7 := Lib.hid h6
  clear h6
  have hb := Lib.hid (below_step hb1 hb2)
  clear hb1 hb2
  have hk : (key12.toList == key12.toList) = true := by simp
  unfold key12 at hk ⊢
  go_wp2
  go_ret
  exact ⟨rfl, hb.out⟩
end Go.Proofs.Ytnkfdpkjphbheaa

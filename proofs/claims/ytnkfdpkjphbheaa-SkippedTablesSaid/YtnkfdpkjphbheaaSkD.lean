import Derived.Test.YtnkfdpkjphbheaaSkC
set_option linter.unusedSimpArgs false
namespace Go.Proofs.Ytnkfdpkjphbheaa
open Go.RowKit Go.Proofs.YtnkfdpkjphbheaaW.PrintWords Go.Proofs.YtnkfdpkjphbheaaW.PrintLast

def takeE (xs : List KeptD) (r : ByteArray) (n : Nat) : Int := if rightK xs = false then 1 else if atI xs r n < 0 then 5 else 0
def takeS (xs : List KeptD) (r : ByteArray) (n : Nat) : ByteArray := if takeE xs r n = 0 then (xs.getD (atI xs r n).toNat default).k else ⟨#[]⟩
def takeL (xs : List KeptD) (r : ByteArray) (n : Nat) : List KeptD := if takeE xs r n = 0 then xs.take (atI xs r n).toNat ++ xs.drop ((atI xs r n).toNat + 1) else []
def TakeRes (xs : List KeptD) (r : ByteArray) (n : Nat) (e : Ending) (w : World) : Prop := ∃ v, e = .returned (.tuple #[.string (takeS xs r n), v, .int .i64 (takeE xs r n)]) ∧ Out kK w v (takeL xs r n)
theorem take_fin {xs : List KeptD} {r : ByteArray} {n : Nat} {E : Int} {s : ByteArray} {v : Value} {w : World} {ys : List KeptD} (h1 : takeE xs r n = E) (h2 : takeS xs r n = s) (h3 : takeL xs r n = ys) (h4 : Out kK w v ys) : TakeRes xs r n (.returned (.tuple #[.string s, v, .int .i64 E])) w :=
  ⟨v, by rw [h1, h2], by rw [h3]; exact h4⟩
theorem atI_lt (xs : List KeptD) (r : ByteArray) (n : Nat) (h : 0 ≤ atI xs r n) : ∃ i : Nat, atI xs r n = i ∧ i < xs.length := by
  unfold atI at h ⊢
  split
  · rename_i hs
    obtain ⟨q, hq, h1⟩ := List.any_eq_true.1 hs
    exact ⟨_, rfl, List.findIdx_lt_length_of_exists ⟨q, hq, h1⟩⟩
  · rename_i hs
    rw [if_neg hs] at h; omega

set_option maxHeartbeats 2000000 in
theorem Take_any (A : Option Addr) (n c : Nat) (xs : List KeptD) (r : ByteArray) (m : Nat) (w : World) (hc : Kd.C kK w A n xs) (hnc : n ≤ c) (_hcc : c ≤ 9223372036854775807) (hn20 : n ≤ 1000) :
    Calls Try.prog 13 #[.slice A n c, .string r, .int .u64 m] w fun e w' => TakeRes xs r m e w' ∧ Below w.heap.size w w' := by
  have HC := Lib.hid hc
  have HL := Lib.hid hc.1
  clear hc
  cases hr : rightK xs
  · have HE := Lib.hid (show takeE xs r m = 1 by unfold takeE; rw [if_pos hr])
    have HR := Lib.hid hr
    clear hr
    go_enter Try.func13, Try.ntmps13
    go_wp2_with (first | (go_at_call 14; refine (Right_any A n c xs _ HC.out hnc).mono ?_; rw [HR.out]; rintro e w1 ⟨rfl, hb1⟩))
    go_ret3
    exact ⟨take_fin HE.out (by unfold takeS; rw [HE.out]; rfl) (by unfold takeL; rw [HE.out]; rfl) (Out_nil _ _), hb1⟩
  · have HR := Lib.hid hr
    have HE := Lib.hid (show takeE xs r m = if atI xs r m < 0 then 5 else 0 by unfold takeE; rw [if_neg (by rw [hr]; decide)])
    clear hr
    by_cases hq : atI xs r m < 0
    · replace HE := Lib.hid (HE.out.trans (if_pos hq))
      generalize hat : atI xs r m = q at hq
      have HAT := Lib.hid hat
      clear hat
      go_enter Try.func13, Try.ntmps13
      go_wp2_with (first | (go_at_call 14; refine (Right_any A n c xs _ HC.out hnc).mono ?_; rw [HR.out]; rintro e w1 ⟨rfl, hb1⟩) | (go_at_call 33; refine (place_any A n c xs r m _ (Kd.C_below HC.out hb1)).mono ?_; rw [HAT.out]; rintro e w2 ⟨rfl, hb2⟩))
      go_ret3
      exact ⟨take_fin HE.out (by unfold takeS; rw [HE.out]; rfl) (by unfold takeL; rw [HE.out]; rfl) (Out_nil _ _), below_step hb1 hb2⟩
    · replace HE := Lib.hid (HE.out.trans (if_neg hq))
      obtain ⟨i, hi, hil⟩ := atI_lt xs r m (by omega)
      have HAT := Lib.hid hi
      have hin : i < n := by rw [HL.out] at hil; exact hil
      obtain ⟨ad, p, rfl, hp, _, _, c2⟩ := kK_at HC.out i hin
      have HS : Hid (takeS xs r m = p.k) := by
        show _ = _
        unfold takeS; rw [HE.out, if_pos rfl, HAT.out, Int.toNat_natCast, List.getD_eq_getElem?_getD, hp]; rfl
      have HLs : Hid (takeL xs r m = xs.take i ++ xs.drop (i + 1)) := by
        show _ = _
        unfold takeL; rw [HE.out, if_pos rfl, HAT.out, Int.toNat_natCast]
      have HT0 := Lib.hid (C_take HC.out i (by omega))
      have HD0 := Lib.hid (C_drop HC.out (i + 1) (by omega))
      have HP := Lib.hid hp
      have hmm : n ≤ 9223372036854775807 := HC.out.2.1
      have hw1 : IntKind.i64.wrap ((i : Int) + 1) = (i : Int) + 1 := IntWalk.i64_in _ (by omega)
      have hw2 : (0 : Int) ≤ (i : Int) + 1 := by omega
      have hw3 : (i : Int) + 1 ≤ (n : Int) := by omega
      have hw4 : (i : Int) ≤ (c : Int) := by omega
      have hw5 : (i : Int) < (n : Int) := by omega
      have hw6 : (0 : Int) ≤ (i : Int) := by omega
      have hw7 : ((i : Int) + 1).toNat = i + 1 := by omega
      have hw8 : i ≤ n := by omega
      have hw9 : i + 1 ≤ n := by omega
      have hw10 : i ≤ c := by omega
      have hw11 : i + 1 ≤ c := by omega
      clear hi hil hp hq
      go_enter Try.func13, Try.ntmps13
      go_wp2_with (first | (go_at_call 14; refine (Right_any (some ad) n c xs _ HC.out hnc).mono ?_; rw [HR.out]; rintro e w1 ⟨rfl, hb1⟩) | (go_at_call 33; refine (place_any (some ad) n c xs r m _ (Kd.C_below HC.out hb1)).mono ?_; rw [HAT.out]; rintro e w2 ⟨rfl, hb2⟩))
      have hb := Lib.hid (below_step hb1 hb2)
      replace c2 := pw_cell_below hb.out c2
      clear hb1 hb2
      by_cases hlast : i + 1 = n
      · have hz : n - (i + 1) = 0 := by omega
        have HLT := Lib.hid (show xs.take i ++ xs.drop (i + 1) = xs.take i by rw [List.drop_eq_nil_of_le (by rw [HL.out]; omega), List.append_nil])
        by_cases hcap : c = i + 1
        all_goals
          refine start_ (n := 17) (S := (fun w' => w'.cell? ⟨(ad.add (i * 3)).block, (ad.add (i * 3)).off + 2, none⟩ = some (.string p.k))) (ds := []) #[false, false, false, false, false, false, false, false, false, false, false, false, false, false, false, false, false] (by kernel_rfl) rfl rfl (by go_simp) (fun hHeld => ?_)
          refine pure_ (i := 0) (N := (some 20)) (v := ?_) (a' := ?_) #[true, false, false, false, false, false, false, false, false, false, false, false, false, false, false, false, false] rfl rfl (by kernel_rfl) (fun _ _ _ h => h) (Or.inl ⟨by rfl, ?_⟩) ?_ ?_
          rotate_left
          · intro w'; go_simp; with_reducible rfl
          rotate_left
          · simp only [Act.put, List.setIfInBounds_toArray, List.set_cons_zero, List.set_cons_succ, i64_w, i32_w]; rfl
          refine pure_ (i := 1) (N := (some 21)) (v := ?_) (a' := ?_) #[true, true, false, false, false, false, false, false, false, false, false, false, false, false, false, false, false] rfl rfl (by kernel_rfl) (fun _ _ _ h => h) (Or.inl ⟨by rfl, ?_⟩) ?_ ?_
          rotate_left
          · intro w'; go_simp; with_reducible rfl
          rotate_left
          · simp only [Act.put, List.setIfInBounds_toArray, List.set_cons_zero, List.set_cons_succ, i64_w, i32_w]; rfl
          refine pure_ (i := 2) (N := (some 22)) (v := ?_) (a' := ?_) #[true, true, true, false, false, false, false, false, false, false, false, false, false, false, false, false, false] rfl rfl (by kernel_rfl) (fun _ _ _ h => h) (Or.inl ⟨by rfl, ?_⟩) ?_ ?_
          rotate_left
          · intro w'; go_simp; with_reducible rfl
          rotate_left
          · simp only [Act.put, List.setIfInBounds_toArray, List.set_cons_zero, List.set_cons_succ, i64_w, i32_w]; rfl
          refine pure_ (i := 3) (N := (some 23)) (v := ?_) (a' := ?_) #[true, true, true, true, false, false, false, false, false, false, false, false, false, false, false, false, false] rfl rfl (by kernel_rfl) (fun _ _ _ h => h) (Or.inl ⟨by rfl, ?_⟩) ?_ ?_
          rotate_left
          · intro w'; go_simp; with_reducible rfl
          rotate_left
          · simp only [Act.put, List.setIfInBounds_toArray, List.set_cons_zero, List.set_cons_succ, i64_w, i32_w]; rfl
          refine pure_ (i := 5) (N := (some 25)) (v := ?_) (a' := ?_) #[true, true, true, true, false, true, false, false, false, false, false, false, false, false, false, false, false] rfl rfl (by kernel_rfl) (fun _ _ _ h => h) (Or.inl ⟨by rfl, ?_⟩) ?_ ?_
          rotate_left
          · intro w'; go_simp; with_reducible rfl
          rotate_left
          · simp only [Act.put, List.setIfInBounds_toArray, List.set_cons_zero, List.set_cons_succ, i64_w, i32_w]; rfl
          refine pure_ (i := 6) (N := (some 26)) (v := ?_) (a' := ?_) #[true, true, true, true, false, true, true, false, false, false, false, false, false, false, false, false, false] rfl rfl (by kernel_rfl) (fun _ _ _ h => h) (Or.inl ⟨by rfl, ?_⟩) ?_ ?_
          rotate_left
          · intro w'; go_simp; with_reducible rfl
          rotate_left
          · simp only [Act.put, List.setIfInBounds_toArray, List.set_cons_zero, List.set_cons_succ, i64_w, i32_w]; rfl
          refine pure_ (i := 7) (N := (some 27)) (v := ?_) (a' := ?_) #[true, true, true, true, false, true, true, true, false, false, false, false, false, false, false, false, false] rfl rfl (by kernel_rfl) (fun _ _ _ h => h) (Or.inl ⟨by rfl, ?_⟩) ?_ ?_
          rotate_left
          · intro w'; go_simp; with_reducible rfl
          rotate_left
          · simp only [Act.put, List.setIfInBounds_toArray, List.set_cons_zero, List.set_cons_succ, i64_w, i32_w]; rfl
          refine pure_ (i := 8) (N := (some 28)) (v := ?_) (a' := ?_) #[true, true, true, true, false, true, true, true, true, false, false, false, false, false, false, false, false] rfl rfl (by kernel_rfl) (fun _ _ _ h => h) (Or.inl ⟨by rfl, ?_⟩) ?_ ?_
          rotate_left
          · intro w'; go_simp; with_reducible rfl
          rotate_left
          · simp only [Act.put, List.setIfInBounds_toArray, List.set_cons_zero, List.set_cons_succ, i64_w, i32_w]; rfl
          refine pure_ (i := 9) (N := (some 29)) (v := ?_) (a' := ?_) #[true, true, true, true, false, true, true, true, true, true, false, false, false, false, false, false, false] rfl rfl (by kernel_rfl) (fun _ _ _ h => h) (Or.inl ⟨by rfl, ?_⟩) ?_ ?_
          rotate_left
          · intro w'; go_simp; with_reducible rfl
          rotate_left
          · simp only [Act.put, List.setIfInBounds_toArray, List.set_cons_zero, List.set_cons_succ, i64_w, i32_w]; rfl
          refine pure_ (i := 10) (N := (some 30)) (v := ?_) (a' := ?_) #[true, true, true, true, false, true, true, true, true, true, true, false, false, false, false, false, false] rfl rfl (by kernel_rfl) (fun _ _ _ h => h) (Or.inl ⟨by rfl, ?_⟩) ?_ ?_
          rotate_left
          · intro w'; go_simp; with_reducible rfl
          rotate_left
          · simp only [Act.put, List.setIfInBounds_toArray, List.set_cons_zero, List.set_cons_succ, i64_w, i32_w]; rfl
          refine pure_ (i := 11) (N := (some 31)) (v := ?_) (a' := ?_) #[true, true, true, true, false, true, true, true, true, true, true, true, false, false, false, false, false] rfl rfl (by kernel_rfl) (fun _ _ _ h => h) (Or.inl ⟨by rfl, ?_⟩) ?_ ?_
          rotate_left
          · intro w'; go_simp; with_reducible rfl
          rotate_left
          · simp only [Act.put, List.setIfInBounds_toArray, List.set_cons_zero, List.set_cons_succ, i64_w, i32_w]; rfl
          refine pure_ (i := 12) (N := (some 32)) (v := ?_) (a' := ?_) #[true, true, true, true, false, true, true, true, true, true, true, true, true, false, false, false, false] rfl rfl (by kernel_rfl) (fun _ _ _ h => h) (Or.inl ⟨by rfl, ?_⟩) ?_ ?_
          rotate_left
          · intro w'; go_simp; with_reducible rfl
          rotate_left
          · simp only [Act.put, List.setIfInBounds_toArray, List.set_cons_zero, List.set_cons_succ, i64_w, i32_w]; rfl
          refine take_ (i := 4) (N := (some 24)) (v := ?_) (a' := ?_) #[true, true, true, true, true, true, true, true, true, true, true, true, true, false, false, false, false] rfl rfl (by kernel_rfl) (fun _ _ _ h => h) (Or.inl ⟨by rfl, ?_⟩) hHeld ?_ ?_
          rotate_left
          · rintro w' s0; go_simp; with_reducible rfl
          rotate_left
          · simp only [Act.put, List.setIfInBounds_toArray, List.set_cons_zero, List.set_cons_succ, i64_w, i32_w]; rfl
          refine one_ (i := 13) (N := (some 33)) #[true, true, true, true, true, true, true, true, true, true, true, true, true, true, false, false, false] rfl rfl (by kernel_rfl) (by simp) (fun K hK => ?_)
          refine app_none_step (.tmp 28) (.tmp 32) 26 28 (by rfl) rfl rfl Try.underlying26 (by kernel_rfl) (some ad) i i rfl (Nat.le_refl _) (by simp) _ _ rfl ?_
          refine hK.out _ _ hHeld (fun hHeld => ?_)
          clear hK K
          refine pure_ (i := 14) (N := (some 6)) (v := ?_) (a' := ?_) #[true, true, true, true, true, true, true, true, true, true, true, true, true, true, true, false, false] rfl rfl (by kernel_rfl) (fun _ _ _ h => h) (Or.inl ⟨by rfl, ?_⟩) ?_ ?_
          rotate_left
          · intro w'; go_simp; with_reducible rfl
          rotate_left
          · simp only [Act.put, List.setIfInBounds_toArray, List.set_cons_zero, List.set_cons_succ, i64_w, i32_w]; rfl
          refine pure_ (i := 15) (N := (some 7)) (v := ?_) (a' := ?_) #[true, true, true, true, true, true, true, true, true, true, true, true, true, true, true, true, false] rfl rfl (by kernel_rfl) (fun _ _ _ h => h) (Or.inl ⟨by rfl, ?_⟩) ?_ ?_
          rotate_left
          · intro w'; go_simp; with_reducible rfl
          rotate_left
          · simp only [Act.put, List.setIfInBounds_toArray, List.set_cons_zero, List.set_cons_succ, i64_w, i32_w]; rfl
          refine pure_ (i := 16) (N := (some 8)) (v := ?_) (a' := ?_) #[true, true, true, true, true, true, true, true, true, true, true, true, true, true, true, true, true] rfl rfl (by kernel_rfl) (fun _ _ _ h => h) (Or.inl ⟨by rfl, ?_⟩) ?_ ?_
          rotate_left
          · intro w'; go_simp; with_reducible rfl
          rotate_left
          · simp only [Act.put, List.setIfInBounds_toArray, List.set_cons_zero, List.set_cons_succ, i64_w, i32_w]; rfl
          refine done_ (by kernel_rfl) ?_
          go_wp2
          go_ret3
          exact ⟨take_fin HE.out HS.out (HLs.out.trans HLT.out) ⟨some ad, i, by rw [HT0.out.1]; rfl, by rw [HT0.out.1]; omega, by omega, by rw [HT0.out.1]; exact Kd.C_below HT0.out (below_drew hb.out)⟩, below_drew hb.out⟩
      · have hne : c ≠ i + 1 := by omega
        have HT := HT0
        have HD := Lib.hid (show Kd.C kK w (some ⟨ad.block, ad.off + (i + 1) * 3, none⟩) (n - (i + 1)) (xs.drop (i + 1)) from by
          have h := HD0.out
          rw [show ad.add ((i + 1) * kK.sz) = ⟨ad.block, ad.off + (i + 1) * 3, none⟩ from by unfold Addr.add; rw [if_neg (by show ¬ (i + 1) * 3 = 0; omega)]; rfl] at h
          exact h)
        refine start_ (n := 17) (S := (fun w' => w'.cell? ⟨(ad.add (i * 3)).block, (ad.add (i * 3)).off + 2, none⟩ = some (.string p.k))) (ds := []) #[false, false, false, false, false, false, false, false, false, false, false, false, false, false, false, false, false] (by kernel_rfl) rfl rfl (by go_simp) (fun hHeld => ?_)
        refine pure_ (i := 0) (N := (some 20)) (v := ?_) (a' := ?_) #[true, false, false, false, false, false, false, false, false, false, false, false, false, false, false, false, false] rfl rfl (by kernel_rfl) (fun _ _ _ h => h) (Or.inl ⟨by rfl, ?_⟩) ?_ ?_
        rotate_left
        · intro w'; go_simp; with_reducible rfl
        rotate_left
        · simp only [Act.put, List.setIfInBounds_toArray, List.set_cons_zero, List.set_cons_succ, i64_w, i32_w]; rfl
        refine pure_ (i := 1) (N := (some 21)) (v := ?_) (a' := ?_) #[true, true, false, false, false, false, false, false, false, false, false, false, false, false, false, false, false] rfl rfl (by kernel_rfl) (fun _ _ _ h => h) (Or.inl ⟨by rfl, ?_⟩) ?_ ?_
        rotate_left
        · intro w'; go_simp; with_reducible rfl
        rotate_left
        · simp only [Act.put, List.setIfInBounds_toArray, List.set_cons_zero, List.set_cons_succ, i64_w, i32_w]; rfl
        refine pure_ (i := 2) (N := (some 22)) (v := ?_) (a' := ?_) #[true, true, true, false, false, false, false, false, false, false, false, false, false, false, false, false, false] rfl rfl (by kernel_rfl) (fun _ _ _ h => h) (Or.inl ⟨by rfl, ?_⟩) ?_ ?_
        rotate_left
        · intro w'; go_simp; with_reducible rfl
        rotate_left
        · simp only [Act.put, List.setIfInBounds_toArray, List.set_cons_zero, List.set_cons_succ, i64_w, i32_w]; rfl
        refine pure_ (i := 3) (N := (some 23)) (v := ?_) (a' := ?_) #[true, true, true, true, false, false, false, false, false, false, false, false, false, false, false, false, false] rfl rfl (by kernel_rfl) (fun _ _ _ h => h) (Or.inl ⟨by rfl, ?_⟩) ?_ ?_
        rotate_left
        · intro w'; go_simp; with_reducible rfl
        rotate_left
        · simp only [Act.put, List.setIfInBounds_toArray, List.set_cons_zero, List.set_cons_succ, i64_w, i32_w]; rfl
        refine pure_ (i := 5) (N := (some 25)) (v := ?_) (a' := ?_) #[true, true, true, true, false, true, false, false, false, false, false, false, false, false, false, false, false] rfl rfl (by kernel_rfl) (fun _ _ _ h => h) (Or.inl ⟨by rfl, ?_⟩) ?_ ?_
        rotate_left
        · intro w'; go_simp; with_reducible rfl
        rotate_left
        · simp only [Act.put, List.setIfInBounds_toArray, List.set_cons_zero, List.set_cons_succ, i64_w, i32_w]; rfl
        refine pure_ (i := 6) (N := (some 26)) (v := ?_) (a' := ?_) #[true, true, true, true, false, true, true, false, false, false, false, false, false, false, false, false, false] rfl rfl (by kernel_rfl) (fun _ _ _ h => h) (Or.inl ⟨by rfl, ?_⟩) ?_ ?_
        rotate_left
        · intro w'; go_simp; with_reducible rfl
        rotate_left
        · simp only [Act.put, List.setIfInBounds_toArray, List.set_cons_zero, List.set_cons_succ, i64_w, i32_w]; rfl
        refine pure_ (i := 7) (N := (some 27)) (v := ?_) (a' := ?_) #[true, true, true, true, false, true, true, true, false, false, false, false, false, false, false, false, false] rfl rfl (by kernel_rfl) (fun _ _ _ h => h) (Or.inl ⟨by rfl, ?_⟩) ?_ ?_
        rotate_left
        · intro w'; go_simp; with_reducible rfl
        rotate_left
        · simp only [Act.put, List.setIfInBounds_toArray, List.set_cons_zero, List.set_cons_succ, i64_w, i32_w]; rfl
        refine pure_ (i := 8) (N := (some 28)) (v := ?_) (a' := ?_) #[true, true, true, true, false, true, true, true, true, false, false, false, false, false, false, false, false] rfl rfl (by kernel_rfl) (fun _ _ _ h => h) (Or.inl ⟨by rfl, ?_⟩) ?_ ?_
        rotate_left
        · intro w'; go_simp; with_reducible rfl
        rotate_left
        · simp only [Act.put, List.setIfInBounds_toArray, List.set_cons_zero, List.set_cons_succ, i64_w, i32_w]; rfl
        refine pure_ (i := 9) (N := (some 29)) (v := ?_) (a' := ?_) #[true, true, true, true, false, true, true, true, true, true, false, false, false, false, false, false, false] rfl rfl (by kernel_rfl) (fun _ _ _ h => h) (Or.inl ⟨by rfl, ?_⟩) ?_ ?_
        rotate_left
        · intro w'; go_simp; with_reducible rfl
        rotate_left
        · simp only [Act.put, List.setIfInBounds_toArray, List.set_cons_zero, List.set_cons_succ, i64_w, i32_w]; rfl
        refine pure_ (i := 10) (N := (some 30)) (v := ?_) (a' := ?_) #[true, true, true, true, false, true, true, true, true, true, true, false, false, false, false, false, false] rfl rfl (by kernel_rfl) (fun _ _ _ h => h) (Or.inl ⟨by rfl, ?_⟩) ?_ ?_
        rotate_left
        · intro w'; go_simp; with_reducible rfl
        rotate_left
        · simp only [Act.put, List.setIfInBounds_toArray, List.set_cons_zero, List.set_cons_succ, i64_w, i32_w]; rfl
        refine pure_ (i := 11) (N := (some 31)) (v := ?_) (a' := ?_) #[true, true, true, true, false, true, true, true, true, true, true, true, false, false, false, false, false] rfl rfl (by kernel_rfl) (fun _ _ _ h => h) (Or.inl ⟨by rfl, ?_⟩) ?_ ?_
        rotate_left
        · intro w'; go_simp; with_reducible rfl
        rotate_left
        · simp only [Act.put, List.setIfInBounds_toArray, List.set_cons_zero, List.set_cons_succ, i64_w, i32_w]; rfl
        refine pure_ (i := 12) (N := (some 32)) (v := ?_) (a' := ?_) #[true, true, true, true, false, true, true, true, true, true, true, true, true, false, false, false, false] rfl rfl (by kernel_rfl) (fun _ _ _ h => h) (Or.inl ⟨by rfl, ?_⟩) ?_ ?_
        rotate_left
        · intro w'; go_simp; with_reducible rfl
        rotate_left
        · simp only [Act.put, List.setIfInBounds_toArray, List.set_cons_zero, List.set_cons_succ, i64_w, i32_w]; rfl
        refine take_ (i := 4) (N := (some 24)) (v := ?_) (a' := ?_) #[true, true, true, true, true, true, true, true, true, true, true, true, true, false, false, false, false] rfl rfl (by kernel_rfl) (fun _ _ _ h => h) (Or.inl ⟨by rfl, ?_⟩) hHeld ?_ ?_
        rotate_left
        · rintro w' s0; go_simp; with_reducible rfl
        rotate_left
        · simp only [Act.put, List.setIfInBounds_toArray, List.set_cons_zero, List.set_cons_succ, i64_w, i32_w]; rfl
        refine one_ (i := 13) (N := (some 33)) #[true, true, true, true, true, true, true, true, true, true, true, true, true, true, false, false, false] rfl rfl (by kernel_rfl) (by simp) (fun K hK => ?_)
        refine app_full_step kK (.tmp 28) (.tmp 32) 26 28 (.agg #[.string ⟨#[]⟩, .int .u64 0, .string ⟨#[]⟩]) 40 (by rfl) rfl rfl Try.underlying26 info28 rfl (by decide) (by decide) (some ad) i i (xs.take i) rfl (Kd.C_below HT.out (below_drew hb.out)) (by simp) _ (n - (i + 1)) _ (xs.drop (i + 1)) rfl (Kd.C_below HD.out (below_drew hb.out)) (by omega) (by omega) (by omega) ?_
        intro v1 w4 hO hb4
        refine hK.out _ _ (keep1 hb4 hHeld) (fun hHeld => ?_)
        clear hK K
        refine pure_ (i := 14) (N := (some 6)) (v := ?_) (a' := ?_) #[true, true, true, true, true, true, true, true, true, true, true, true, true, true, true, false, false] rfl rfl (by kernel_rfl) (fun _ _ _ h => h) (Or.inl ⟨by rfl, ?_⟩) ?_ ?_
        rotate_left
        · intro w'; go_simp; with_reducible rfl
        rotate_left
        · simp only [Act.put, List.setIfInBounds_toArray, List.set_cons_zero, List.set_cons_succ, i64_w, i32_w]; rfl
        refine pure_ (i := 15) (N := (some 7)) (v := ?_) (a' := ?_) #[true, true, true, true, true, true, true, true, true, true, true, true, true, true, true, true, false] rfl rfl (by kernel_rfl) (fun _ _ _ h => h) (Or.inl ⟨by rfl, ?_⟩) ?_ ?_
        rotate_left
        · intro w'; go_simp; with_reducible rfl
        rotate_left
        · simp only [Act.put, List.setIfInBounds_toArray, List.set_cons_zero, List.set_cons_succ, i64_w, i32_w]; rfl
        refine pure_ (i := 16) (N := (some 8)) (v := ?_) (a' := ?_) #[true, true, true, true, true, true, true, true, true, true, true, true, true, true, true, true, true] rfl rfl (by kernel_rfl) (fun _ _ _ h => h) (Or.inl ⟨by rfl, ?_⟩) ?_ ?_
        rotate_left
        · intro w'; go_simp; with_reducible rfl
        rotate_left
        · simp only [Act.put, List.setIfInBounds_toArray, List.set_cons_zero, List.set_cons_succ, i64_w, i32_w]; rfl
        refine done_ (by kernel_rfl) ?_
        go_wp2
        go_ret3
        exact ⟨take_fin HE.out HS.out HLs.out hO, below_step (below_drew hb.out) hb4⟩
end Go.Proofs.Ytnkfdpkjphbheaa

import Derived.Test.YtnkfdpkjphbheaaSkB
import Derived.StillTailTactics
set_option linter.unusedSimpArgs false
namespace Go.Proofs.Ytnkfdpkjphbheaa
open Go.RowKit Go.Proofs.YtnkfdpkjphbheaaW.PrintWords Go.Proofs.YtnkfdpkjphbheaaW.PrintLast
theorem info28 : (Try.prog.info? 28).map (fun i => (i.zero, i.size, i.bytes)) = some (some (.agg #[.string ⟨#[]⟩, .int .u64 0, .string ⟨#[]⟩]), 3, 40) := by kernel_rfl

def putK (xs : List KeptD) (x : KeptD) : List KeptD := (if xs.length = 20 then xs.drop 1 else xs) ++ [x]

set_option maxHeartbeats 1000000 in
theorem put_any (A : Option Addr) (n c : Nat) (xs : List KeptD) (x : KeptD) (w : World) (hc : Kd.C kK w A n xs) (hnc : n ≤ c) (hcc : c ≤ 9223372036854775807) (hn20 : n ≤ 1000) :
    Calls Try.prog 35 #[.slice A n c, .agg #[.string x.r, .int .u64 x.n, .string x.k]] w fun e w' => (∃ v, e = .returned v ∧ Out kK w' v (putK xs x)) ∧ Below w.heap.size w w' := by
  have HC := Lib.hid hc
  have HL := Lib.hid hc.1
  by_cases h20 : n = 20
  · subst h20
    obtain ⟨ad, rfl, _⟩ := hc.2.2 (by omega)
    clear hc
    have hD := C_drop HC.out 1 (by omega)
    rw [show ad.add (1 * kK.sz) = ⟨ad.block, ad.off + 3, none⟩ from rfl] at hD
    have HD := Lib.hid hD
    clear hD
    have hc1 : (19 : Int) ≤ ((c - 1 : Nat) : Int) := by omega
    go_enter Try.func35, Try.ntmps35
    go_wp2_with fail
    have hB := Lib.hid (below_alloc (Below.refl w.heap.size w) (.cells #[.string x.r, .int .u64 x.n, .string x.k] 28))
    have d0 : (w.alloc (.cells #[.string x.r, .int .u64 x.n, .string x.k] 28)).cell? ⟨w.heap.size, 0, none⟩ = some (.string x.r) := by go_simp
    have d1 : (w.alloc (.cells #[.string x.r, .int .u64 x.n, .string x.k] 28)).cell? ⟨w.heap.size, 1, none⟩ = some (.int .u64 x.n) := by go_simp
    have d2 : (w.alloc (.cells #[.string x.r, .int .u64 x.n, .string x.k] 28)).cell? ⟨w.heap.size, 2, none⟩ = some (.string x.k) := by go_simp
    generalize w.alloc (.cells #[.string x.r, .int .u64 x.n, .string x.k] 28) = W at hB d0 d1 d2 ⊢
    refine start_ (n := 10) (S := (fun w' => w'.cell? ⟨w.heap.size, 0, none⟩ = some (.string x.r) ∧ w'.cell? ⟨w.heap.size, 1, none⟩ = some (.int .u64 x.n) ∧ w'.cell? ⟨w.heap.size, 2, none⟩ = some (.string x.k))) (ds := []) #[false, false, false, false, false, false, false, false, false, false] (by kernel_rfl) rfl rfl ⟨by go_simp, by go_simp, by go_simp⟩ (fun hHeld => ?_)
    refine pure_ (i := 0) (N := (some 10)) (v := ?_) (a' := ?_) #[true, false, false, false, false, false, false, false, false, false] rfl rfl (by kernel_rfl) (fun _ _ _ h => h) (Or.inl ⟨by rfl, ?_⟩) ?_ ?_
    rotate_left
    · intro w'; go_simp; with_reducible rfl
    rotate_left
    · simp only [Act.put, List.setIfInBounds_toArray, List.set_cons_zero, List.set_cons_succ, i64_w, i32_w]; rfl
    refine pure_ (i := 1) (N := (some 11)) (v := ?_) (a' := ?_) #[true, true, false, false, false, false, false, false, false, false] rfl rfl (by kernel_rfl) (fun _ _ _ h => h) (Or.inl ⟨by rfl, ?_⟩) ?_ ?_
    rotate_left
    · intro w'; go_simp; with_reducible rfl
    rotate_left
    · simp only [Act.put, List.setIfInBounds_toArray, List.set_cons_zero, List.set_cons_succ, i64_w, i32_w]; rfl
    refine pure_ (i := 2) (N := (some 12)) (v := ?_) (a' := ?_) #[true, true, true, false, false, false, false, false, false, false] rfl rfl (by kernel_rfl) (fun _ _ _ h => h) (Or.inl ⟨by rfl, ?_⟩) ?_ ?_
    rotate_left
    · intro w'; go_simp; with_reducible rfl
    rotate_left
    · simp only [Act.put, List.setIfInBounds_toArray, List.set_cons_zero, List.set_cons_succ, i64_w, i32_w]; rfl
    refine pure_ (i := 3) (N := (some 13)) (v := ?_) (a' := ?_) #[true, true, true, true, false, false, false, false, false, false] rfl rfl (by kernel_rfl) (fun _ _ _ h => h) (Or.inl ⟨by rfl, ?_⟩) ?_ ?_
    rotate_left
    · intro w'; go_simp; with_reducible rfl
    rotate_left
    · simp only [Act.put, List.setIfInBounds_toArray, List.set_cons_zero, List.set_cons_succ, i64_w, i32_w]; rfl
    refine pure_ (i := 4) (N := (some 14)) (v := ?_) (a' := ?_) #[true, true, true, true, true, false, false, false, false, false] rfl rfl (by kernel_rfl) (fun _ _ _ h => h) (Or.inl ⟨by rfl, ?_⟩) ?_ ?_
    rotate_left
    · intro w'; go_simp; with_reducible rfl
    rotate_left
    · simp only [Act.put, List.setIfInBounds_toArray, List.set_cons_zero, List.set_cons_succ, i64_w, i32_w]; rfl
    refine pure_ (i := 5) (N := (some 15)) (v := ?_) (a' := ?_) #[true, true, true, true, true, true, false, false, false, false] rfl rfl (by kernel_rfl) (fun _ _ _ h => h) (Or.inl ⟨by rfl, ?_⟩) ?_ ?_
    rotate_left
    · intro w'; go_simp; with_reducible rfl
    rotate_left
    · simp only [Act.put, List.setIfInBounds_toArray, List.set_cons_zero, List.set_cons_succ, i64_w, i32_w]; rfl
    refine take_ (i := 6) (N := (some 16)) (v := ?_) (a' := ?_) #[true, true, true, true, true, true, true, false, false, false] rfl rfl (by kernel_rfl) (fun _ _ _ h => h) (Or.inl ⟨by rfl, ?_⟩) hHeld ?_ ?_
    rotate_left
    · rintro w' ⟨s0, s1, s2⟩; go_simp; with_reducible rfl
    rotate_left
    · simp only [Act.put, List.setIfInBounds_toArray, List.set_cons_zero, List.set_cons_succ, i64_w, i32_w]; rfl
    refine one_ (i := 7) (N := (some 17)) #[true, true, true, true, true, true, true, true, false, false] rfl rfl (by kernel_rfl) (by simp) (fun K hK => ?_)
    refine value_ (by rfl) rfl (by go_simp; exact ⟨rfl, rfl⟩) ?_
    refine hK.out _ _ (keep3 (below_alloc (Below.refl _ _) _) hHeld) (fun hHeld => ?_)
    clear hK K
    refine one_ (i := 8) (N := (some 18)) #[true, true, true, true, true, true, true, true, true, false] rfl rfl (by kernel_rfl) (by simp) (fun K hK => ?_)
    refine app_full_step kK (.tmp 15) (.tmp 17) 26 28 (.agg #[.string ⟨#[]⟩, .int .u64 0, .string ⟨#[]⟩]) 40 (by rfl) rfl rfl Try.underlying26 info28 rfl (by decide) (by decide) (some ⟨ad.block, ad.off + 3, none⟩) 19 19 (xs.drop 1) rfl (Kd.C_below (HD.out) (below_drew (below_alloc hB.out _))) (by simp) (some ⟨W.heap.size, 0, none⟩) 1 1 [x] rfl (C_box (d := kK) (W := W.drew) (cs := encK x) 28 rfl) (by omega) (by omega) (by omega) ?_
    intro v1 w1 hO hb
    refine hK.out _ _ (keep3 hb hHeld) (fun hHeld => ?_)
    clear hK K
    refine pure_ (i := 9) (N := (some 4)) (v := ?_) (a' := ?_) #[true, true, true, true, true, true, true, true, true, true] rfl rfl (by kernel_rfl) (fun _ _ _ h => h) (Or.inl ⟨by rfl, ?_⟩) ?_ ?_
    rotate_left
    · intro w'; go_simp; with_reducible rfl
    rotate_left
    · simp only [Act.put, List.setIfInBounds_toArray, List.set_cons_zero, List.set_cons_succ, i64_w, i32_w]; rfl
    refine done_ (by kernel_rfl) ?_
    go_wp2
    go_ret
    refine ⟨⟨v1, rfl, ?_⟩, below_step (below_drew (below_alloc hB.out _)) hb⟩
    unfold putK; rw [if_pos HL.out]; exact hO
  · have h1 : ((n : Int) == 20) = false := by simp; omega
    have hA : A = none → n = 0 ∧ n = 0 := by
      intro h; subst h
      rcases Nat.eq_zero_or_pos n with h | h
      · exact ⟨h, h⟩
      · obtain ⟨_, h2, _⟩ := hc.2.2 h; cases h2
    have HA := Lib.hid hA
    clear hA hc
    have hi0 : (0 : Int) ≤ (n : Int) := Int.natCast_nonneg _
    have hi1 : (n : Int) ≤ (c : Int) := by omega
    go_enter Try.func35, Try.ntmps35
    go_wp2_with fail
    have hB := Lib.hid (below_alloc (Below.refl w.heap.size w) (.cells #[.string x.r, .int .u64 x.n, .string x.k] 28))
    have d0 : (w.alloc (.cells #[.string x.r, .int .u64 x.n, .string x.k] 28)).cell? ⟨w.heap.size, 0, none⟩ = some (.string x.r) := by go_simp
    have d1 : (w.alloc (.cells #[.string x.r, .int .u64 x.n, .string x.k] 28)).cell? ⟨w.heap.size, 1, none⟩ = some (.int .u64 x.n) := by go_simp
    have d2 : (w.alloc (.cells #[.string x.r, .int .u64 x.n, .string x.k] 28)).cell? ⟨w.heap.size, 2, none⟩ = some (.string x.k) := by go_simp
    generalize w.alloc (.cells #[.string x.r, .int .u64 x.n, .string x.k] 28) = W at hB d0 d1 d2 ⊢
    refine start_ (n := 10) (S := (fun w' => w'.cell? ⟨w.heap.size, 0, none⟩ = some (.string x.r) ∧ w'.cell? ⟨w.heap.size, 1, none⟩ = some (.int .u64 x.n) ∧ w'.cell? ⟨w.heap.size, 2, none⟩ = some (.string x.k))) (ds := []) #[false, false, false, false, false, false, false, false, false, false] (by kernel_rfl) rfl rfl ⟨by go_simp, by go_simp, by go_simp⟩ (fun hHeld => ?_)
    refine pure_ (i := 0) (N := (some 10)) (v := ?_) (a' := ?_) #[true, false, false, false, false, false, false, false, false, false] rfl rfl (by kernel_rfl) (fun _ _ _ h => h) (Or.inl ⟨by rfl, ?_⟩) ?_ ?_
    rotate_left
    · intro w'; go_simp; with_reducible rfl
    rotate_left
    · simp only [Act.put, List.setIfInBounds_toArray, List.set_cons_zero, List.set_cons_succ, i64_w, i32_w]; rfl
    refine pure_ (i := 1) (N := (some 11)) (v := ?_) (a' := ?_) #[true, true, false, false, false, false, false, false, false, false] rfl rfl (by kernel_rfl) (fun _ _ _ h => h) (Or.inl ⟨by rfl, ?_⟩) ?_ ?_
    rotate_left
    · intro w'; go_simp; with_reducible rfl
    rotate_left
    · simp only [Act.put, List.setIfInBounds_toArray, List.set_cons_zero, List.set_cons_succ, i64_w, i32_w]; rfl
    refine pure_ (i := 2) (N := (some 12)) (v := ?_) (a' := ?_) #[true, true, true, false, false, false, false, false, false, false] rfl rfl (by kernel_rfl) (fun _ _ _ h => h) (Or.inl ⟨by rfl, ?_⟩) ?_ ?_
    rotate_left
    · intro w'; go_simp; with_reducible rfl
    rotate_left
    · simp only [Act.put, List.setIfInBounds_toArray, List.set_cons_zero, List.set_cons_succ, i64_w, i32_w]; rfl
    refine pure_ (i := 3) (N := (some 13)) (v := ?_) (a' := ?_) #[true, true, true, true, false, false, false, false, false, false] rfl rfl (by kernel_rfl) (fun _ _ _ h => h) (Or.inl ⟨by rfl, ?_⟩) ?_ ?_
    rotate_left
    · intro w'; go_simp; with_reducible rfl
    rotate_left
    · simp only [Act.put, List.setIfInBounds_toArray, List.set_cons_zero, List.set_cons_succ, i64_w, i32_w]; rfl
    refine pure_ (i := 4) (N := (some 14)) (v := ?_) (a' := ?_) #[true, true, true, true, true, false, false, false, false, false] rfl rfl (by kernel_rfl) (fun _ _ _ h => h) (Or.inl ⟨by rfl, ?_⟩) ?_ ?_
    rotate_left
    · intro w'; go_simp; with_reducible rfl
    rotate_left
    · simp only [Act.put, List.setIfInBounds_toArray, List.set_cons_zero, List.set_cons_succ, i64_w, i32_w]; rfl
    refine pure_ (i := 5) (N := (some 15)) (v := ?_) (a' := ?_) #[true, true, true, true, true, true, false, false, false, false] rfl rfl (by kernel_rfl) (fun _ _ _ h => h) (Or.inl ⟨by rfl, ?_⟩) ?_ ?_
    rotate_left
    · intro w'; go_simp; with_reducible rfl
    rotate_left
    · simp only [Act.put, List.setIfInBounds_toArray, List.set_cons_zero, List.set_cons_succ, i64_w, i32_w]; rfl
    refine take_ (i := 6) (N := (some 16)) (v := ?_) (a' := ?_) #[true, true, true, true, true, true, true, false, false, false] rfl rfl (by kernel_rfl) (fun _ _ _ h => h) (Or.inl ⟨by rfl, ?_⟩) hHeld ?_ ?_
    rotate_left
    · rintro w' ⟨s0, s1, s2⟩; go_simp; with_reducible rfl
    rotate_left
    · simp only [Act.put, List.setIfInBounds_toArray, List.set_cons_zero, List.set_cons_succ, i64_w, i32_w]; rfl
    refine one_ (i := 7) (N := (some 17)) #[true, true, true, true, true, true, true, true, false, false] rfl rfl (by kernel_rfl) (by simp) (fun K hK => ?_)
    refine value_ (by rfl) rfl (by go_simp; exact ⟨rfl, rfl⟩) ?_
    refine hK.out _ _ (keep3 (below_alloc (Below.refl _ _) _) hHeld) (fun hHeld => ?_)
    clear hK K
    refine one_ (i := 8) (N := (some 18)) #[true, true, true, true, true, true, true, true, true, false] rfl rfl (by kernel_rfl) (by simp) (fun K hK => ?_)
    refine app_full_step kK (.tmp 15) (.tmp 17) 26 28 (.agg #[.string ⟨#[]⟩, .int .u64 0, .string ⟨#[]⟩]) 40 (by rfl) rfl rfl Try.underlying26 info28 rfl (by decide) (by decide) (A) n n (xs) rfl (Kd.C_below (HC.out) (below_drew (below_alloc hB.out _))) (HA.out) (some ⟨W.heap.size, 0, none⟩) 1 1 [x] rfl (C_box (d := kK) (W := W.drew) (cs := encK x) 28 rfl) (by omega) (by omega) (by omega) ?_
    intro v1 w1 hO hb
    refine hK.out _ _ (keep3 hb hHeld) (fun hHeld => ?_)
    clear hK K
    refine pure_ (i := 9) (N := (some 4)) (v := ?_) (a' := ?_) #[true, true, true, true, true, true, true, true, true, true] rfl rfl (by kernel_rfl) (fun _ _ _ h => h) (Or.inl ⟨by rfl, ?_⟩) ?_ ?_
    rotate_left
    · intro w'; go_simp; with_reducible rfl
    rotate_left
    · simp only [Act.put, List.setIfInBounds_toArray, List.set_cons_zero, List.set_cons_succ, i64_w, i32_w]; rfl
    refine done_ (by kernel_rfl) ?_
    go_wp2
    go_ret
    refine ⟨⟨v1, rfl, ?_⟩, below_step (below_drew (below_alloc hB.out _)) hb⟩
    unfold putK; rw [if_neg (by rw [HL.out]; exact h20)]; exact hO

set_option maxHeartbeats 1000000 in
theorem few12_any (A : Option Addr) (n c : Nat) (w : World) (h : n ≤ c) :
    Calls Try.prog 10 #[.slice A n c] w fun e w' => e = .returned (.slice A (min n 22) c) ∧ w = w' := by
  go_enter Try.func10, Try.ntmps10
  go_wp2
  all_goals
    go_ret
    exact ⟨ret_congr (congrArg (fun k => Value.slice A k c) (by omega)), rfl⟩

/-- the outcome of Put: the table or none, and the error -/
def putE (xs : List KeptD) (x : KeptD) : Int := if rightK xs = false then 1 else if sizedK x = false then 2 else if 0 ≤ atI xs x.r x.n then 7 else 0
def PutRes (xs : List KeptD) (x : KeptD) (e : Ending) (w : World) : Prop := ∃ v, e = .returned (.tuple #[v, .int .i64 (putE xs x)]) ∧ Out kK w v (if putE xs x = 0 then putK xs x else [])
theorem put_fin {xs : List KeptD} {x : KeptD} {E : Int} {v : Value} {w : World} {ys : List KeptD} (h1 : putE xs x = E) (h2 : (if E = 0 then putK xs x else []) = ys) (h3 : Out kK w v ys) : PutRes xs x (.returned (.tuple #[v, .int .i64 E])) w :=
  ⟨v, by rw [h1], by rw [h1, h2]; exact h3⟩
set_option maxHeartbeats 1000000 in
theorem Put_any (A : Option Addr) (n c : Nat) (xs : List KeptD) (x : KeptD) (w : World) (hc : Kd.C kK w A n xs) (hnc : n ≤ c) (hcc : c ≤ 9223372036854775807) (hn20 : n ≤ 1000) :
    Calls Try.prog 11 #[.slice A n c, .agg #[.string x.r, .int .u64 x.n, .string x.k]] w fun e w' => PutRes xs x e w' ∧ Below w.heap.size w w' := by
  have HC := Lib.hid hc
  clear hc
  have HB := Lib.hid (below_alloc (Below.refl w.heap.size w) (.cells #[.string x.r, .int .u64 x.n, .string x.k] 28))
  cases hr : rightK xs
  · have HE := Lib.hid (show putE xs x = 1 by unfold putE; rw [if_pos hr])
    have HR := Lib.hid hr
    clear hr
    go_enter Try.func11, Try.ntmps11
    go_wp2_with (first | (go_at_call 14; refine (Right_any A n c xs _ (Kd.C_below HC.out HB.out) hnc).mono ?_; rw [HR.out]; rintro e w1 ⟨rfl, hb1⟩))
    go_ret2
    exact ⟨put_fin HE.out rfl (Out_nil _ _), below_step HB.out hb1⟩
  · have HR := Lib.hid hr
    cases hs : sizedK x
    · have HE := Lib.hid (show putE xs x = 2 by unfold putE; rw [if_neg (by rw [hr]; decide), if_pos hs])
      have HS := Lib.hid hs
      clear hr hs
      go_enter Try.func11, Try.ntmps11
      go_wp2_with (first | (go_at_call 14; refine (Right_any A n c xs _ (Kd.C_below HC.out HB.out) hnc).mono ?_; rw [HR.out]; rintro e w1 ⟨rfl, hb1⟩; have hc1 := fun (b o) (h : b < w.heap.size + 1) => hb1.cell (p := ⟨b, o, none⟩) (by simpa using h)) | (go_at_call 32; refine (sized_any x _).mono ?_; rw [HS.out]; rintro e w2 ⟨rfl, hb2⟩))
      go_ret2
      exact ⟨put_fin HE.out rfl (Out_nil _ _), below_step (below_step HB.out hb1) hb2⟩
    · have HS := Lib.hid hs
      have HE := Lib.hid (show putE xs x = if 0 ≤ atI xs x.r x.n then 7 else 0 by unfold putE; rw [if_neg (by rw [hr]; decide), if_neg (by rw [hs]; decide)])
      clear hr hs
      generalize hat : atI xs x.r x.n = q at HE
      have HAT := Lib.hid hat
      clear hat
      by_cases hq : 0 ≤ q
      · replace HE := Lib.hid (HE.out.trans (if_pos hq))
        go_enter Try.func11, Try.ntmps11
        go_wp2_with (first | (go_at_call 14; refine (Right_any A n c xs _ (Kd.C_below HC.out HB.out) hnc).mono ?_; rw [HR.out]; rintro e w1 ⟨rfl, hb1⟩; have hc1 := fun (b o) (h : b < w.heap.size + 1) => hb1.cell (p := ⟨b, o, none⟩) (by simpa using h)) | (go_at_call 32; refine (sized_any x _).mono ?_; rw [HS.out]; rintro e w2 ⟨rfl, hb2⟩; have hc2 := fun (b o) (h : b < w1.heap.size) => hb2.cell (p := ⟨b, o, none⟩) (by simpa using h); have hz1 : w.heap.size < w1.heap.size := by have := hb1.size; simp at this; omega) | (go_at_call 34; refine (of_any x _).mono ?_; rintro e w3 ⟨rfl, hb3⟩; have hb := Lib.hid (below_step (below_step (below_step HB.out hb1) hb2) hb3)) | (go_at_call 33; refine (place_any A n c xs x.r x.n _ (Kd.C_below HC.out hb.out)).mono ?_; rw [HAT.out]; rintro e w4 ⟨rfl, hb4⟩))
        go_ret2
        exact ⟨put_fin HE.out rfl (Out_nil _ _), below_step hb.out hb4⟩
      · replace HE := Lib.hid (HE.out.trans (if_neg hq))
        go_enter Try.func11, Try.ntmps11
        go_wp2_with (first | (go_at_call 14; refine (Right_any A n c xs _ (Kd.C_below HC.out HB.out) hnc).mono ?_; rw [HR.out]; rintro e w1 ⟨rfl, hb1⟩; have hc1 := fun (b o) (h : b < w.heap.size + 1) => hb1.cell (p := ⟨b, o, none⟩) (by simpa using h)) | (go_at_call 32; refine (sized_any x _).mono ?_; rw [HS.out]; rintro e w2 ⟨rfl, hb2⟩; have hc2 := fun (b o) (h : b < w1.heap.size) => hb2.cell (p := ⟨b, o, none⟩) (by simpa using h); have hz1 : w.heap.size < w1.heap.size := by have := hb1.size; simp at this; omega) | (go_at_call 34; refine (of_any x _).mono ?_; rintro e w3 ⟨rfl, hb3⟩; have hc3 := fun (b o) (h : b < w2.heap.size) => hb3.cell (p := ⟨b, o, none⟩) (by simpa using h); have hz2 : w.heap.size < w2.heap.size := (by have := hb2.size; omega); have hb := Lib.hid (below_step (below_step (below_step HB.out hb1) hb2) hb3)) | (go_at_call 33; refine (place_any A n c xs x.r x.n _ (Kd.C_below HC.out hb.out)).mono ?_; rw [HAT.out]; rintro e w4 ⟨rfl, hb4⟩; have hc4 := fun (b o) (h : b < w3.heap.size) => hb4.cell (p := ⟨b, o, none⟩) (by simpa using h); have hz3 : w.heap.size < w3.heap.size := by have := hb3.size; omega) | (go_at_call 35; refine (put_any A n c xs x _ (Kd.C_below HC.out (below_step hb.out hb4)) hnc hcc hn20).mono ?_; rintro e w5 ⟨⟨v, rfl, hO⟩, hb5⟩))
        go_ret2
        exact ⟨put_fin HE.out rfl hO, below_step (below_step hb.out hb4) hb5⟩
end Go.Proofs.Ytnkfdpkjphbheaa

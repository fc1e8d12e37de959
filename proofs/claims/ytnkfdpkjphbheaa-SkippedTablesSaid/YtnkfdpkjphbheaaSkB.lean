import Derived.Test.YtnkfdpkjphbheaaSkA
import Derived.Test.YtnkfdpkjphbheaaWLast
set_option linter.unusedSimpArgs false
namespace Go.Proofs.Ytnkfdpkjphbheaa
open Go.RowKit Go.Proofs.YtnkfdpkjphbheaaW.PrintWords Go.Proofs.YtnkfdpkjphbheaaW.PrintLast

def okAt (xs : List KeptD) (k : Nat) : Bool := match xs[k]? with
  | some p => sizedK p && decide (atI (xs.take k) p.r p.n < 0)
  | none => true
def rightK (xs : List KeptD) : Bool := (List.range xs.length).all (okAt xs) && decide (xs.length ≤ 20)
set_option maxHeartbeats 2000000 in
theorem Right_any (A : Option Addr) (n c : Nat) (xs : List KeptD) (w : World) (hc : Kd.C kK w A n xs) (hnc : n ≤ c) :
    Calls Try.prog 14 #[.slice A n c] w fun e w' => e = .returned (.bool (rightK xs)) ∧ Below w.heap.size w w' := by
  have hm : n ≤ 9223372036854775807 := hc.2.1
  have HC := Lib.hid hc
  have HL := Lib.hid hc.1
  clear hc
  go_enter Try.func14, Try.ntmps14
  go_wp2
  go_loopw [7] (fun i wr => ∃ k : Nat, k ≤ n ∧ i = .int .i64 k ∧ Aside0 (∀ j, j < k → okAt xs j = true) ∧ Aside0 (Below w.heap.size w wr)) (fun i _ => (n - intOf i).toNat)
  case atStart => exact ⟨0, by omega, rfl, ⟨by simp⟩, ⟨Below.refl _ _⟩⟩
  case round =>
    obtain ⟨k, hk, rfl, HN, HB⟩ := hrel
    by_cases hlt : k < n
    · obtain ⟨ad, p, rfl, hp, c0, c1, c2⟩ := kK_at HC.out k hlt
      replace c0 := pw_cell_below HB.out c0
      replace c1 := pw_cell_below HB.out c1
      replace c2 := pw_cell_below HB.out c2
      have hok : okAt xs k = (sizedK p && decide (atI (xs.take k) p.r p.n < 0)) := by unfold okAt; rw [hp]
      have HOK := Lib.hid hok
      have hbad : okAt xs k = false → rightK xs = false := fun h => by
        unfold rightK
        have : (List.range xs.length).all (okAt xs) = false := by
          rw [List.all_eq_false]; exact ⟨k, by rw [List.mem_range, HL.out]; exact hlt, by rw [h]; decide⟩
        rw [this]; rfl
      have HBAD := Lib.hid hbad
      have hcap : (k : Int) ≤ (c : Int) := by omega
      clear hp hok hbad
      generalize hat : atI (xs.take k) p.r p.n = at_ at HOK
      have HAT := Lib.hid hat
      clear hat
      go_wp2_with fail
      have hB := Lib.hid (below_alloc HB.out (.cells #[.string p.r, .int .u64 p.n, .string p.k] 28))
      have HB2 := Lib.hid (below_alloc (Below.refl wr.heap.size wr) (.cells #[.string p.r, .int .u64 p.n, .string p.k] 28))
      have d0 : (wr.alloc (.cells #[.string p.r, .int .u64 p.n, .string p.k] 28)).cell? ⟨wr.heap.size, 0, none⟩ = some (.string p.r) := by go_simp
      have d1 : (wr.alloc (.cells #[.string p.r, .int .u64 p.n, .string p.k] 28)).cell? ⟨wr.heap.size, 1, none⟩ = some (.int .u64 p.n) := by go_simp
      have d2 : (wr.alloc (.cells #[.string p.r, .int .u64 p.n, .string p.k] 28)).cell? ⟨wr.heap.size, 2, none⟩ = some (.string p.k) := by go_simp
      have hs : wr.heap.size < (wr.alloc (.cells #[.string p.r, .int .u64 p.n, .string p.k] 28)).heap.size := by simp
      generalize wr.alloc (.cells #[.string p.r, .int .u64 p.n, .string p.k] 28) = W at hB HB2 d0 d1 d2 hs ⊢
      clear c0 c1 c2
      cases hsz : sizedK p
      · rw [hsz] at HOK
        have HBF := Lib.hid (HBAD.out (by rw [HOK.out]; rfl))
        clear HBAD HOK
        have HSZ := Lib.hid hsz
        clear hsz
        refine start_ (n := 12) (S := (fun w' => w'.cell? ⟨wr.heap.size, 0, none⟩ = some (.string p.r) ∧ w'.cell? ⟨wr.heap.size, 1, none⟩ = some (.int .u64 p.n) ∧ w'.cell? ⟨wr.heap.size, 2, none⟩ = some (.string p.k))) (ds := []) #[false, false, false, false, false, false, false, false, false, false, false, false] (by kernel_rfl) rfl rfl ⟨by go_simp, by go_simp, by go_simp⟩ (fun hHeld => ?_)
        refine take_ (i := 0) (N := (some 12)) (v := ?_) (a' := ?_) #[true, false, false, false, false, false, false, false, false, false, false, false] rfl rfl (by kernel_rfl) (fun _ _ _ h => h) (Or.inl ⟨by rfl, ?_⟩) hHeld ?_ ?_
        rotate_left
        · rintro w' ⟨s0, s1, s2⟩; go_simp; with_reducible rfl
        rotate_left
        · simp only [Act.put, List.setIfInBounds_toArray, List.set_cons_zero, List.set_cons_succ, i64_w, i32_w]; rfl
        refine one_ (i := 1) (N := (some 13)) #[true, true, false, false, false, false, false, false, false, false, false, false] rfl rfl (by kernel_rfl) (by simp) (fun K hK => ?_)
        refine goes_ Try.func32 (by kernel_rfl) rfl #[.agg #[.string p.r, .int .u64 p.n, .string p.k]] (by rfl) rfl rfl (by (try simp only [List.map_toArray, List.map_cons, List.map_nil]); first | done | rfl) ?_
        refine (sized_any p _).mono ?_
        rw [HSZ.out]
        rintro e w1 ⟨rfl, hb1⟩
        refine ⟨_, rfl, hK.out _ _ ⟨(hb1.cell (p := ⟨wr.heap.size, 0, none⟩) (by simpa using hs)).trans (by go_simp), (hb1.cell (p := ⟨wr.heap.size, 1, none⟩) (by simpa using hs)).trans (by go_simp), (hb1.cell (p := ⟨wr.heap.size, 2, none⟩) (by simpa using hs)).trans (by go_simp)⟩ (fun hHeld => ?_)⟩
        clear hK K
        refine pure_ (i := 2) (N := (some 14)) (v := ?_) (a' := ?_) #[true, true, true, false, false, false, false, false, false, false, false, false] rfl rfl (by kernel_rfl) (fun _ _ _ h => h) (Or.inl ⟨by rfl, ?_⟩) ?_ ?_
        rotate_left
        · intro w'; go_simp; with_reducible rfl
        rotate_left
        · simp only [Act.put, List.setIfInBounds_toArray, List.set_cons_zero, List.set_cons_succ, i64_w, i32_w]; rfl
        refine pure_ (i := 3) (N := (some 15)) (v := ?_) (a' := ?_) #[true, true, true, true, false, false, false, false, false, false, false, false] rfl rfl (by kernel_rfl) (fun _ _ _ h => h) (Or.inl ⟨by rfl, ?_⟩) ?_ ?_
        rotate_left
        · intro w'; go_simp; with_reducible rfl
        rotate_left
        · simp only [Act.put, List.setIfInBounds_toArray, List.set_cons_zero, List.set_cons_succ, i64_w, i32_w]; rfl
        refine pure_ (i := 4) (N := (some 16)) (v := undef) #[true, true, true, true, true, false, false, false, false, false, false, false] rfl rfl (by kernel_rfl) (fun _ _ _ h => h) (Or.inr ⟨by rfl, rfl⟩) rfl ?_
        refine pure_ (i := 5) (N := (some 17)) (v := undef) #[true, true, true, true, true, true, false, false, false, false, false, false] rfl rfl (by kernel_rfl) (fun _ _ _ h => h) (Or.inr ⟨by rfl, rfl⟩) rfl ?_
        refine pure_ (i := 6) (N := (some 18)) (v := undef) #[true, true, true, true, true, true, true, false, false, false, false, false] rfl rfl (by kernel_rfl) (fun _ _ _ h => h) (Or.inr ⟨by rfl, rfl⟩) rfl ?_
        refine pure_ (i := 7) (N := (some 19)) (v := undef) #[true, true, true, true, true, true, true, true, false, false, false, false] rfl rfl (by kernel_rfl) (fun _ _ _ h => h) (Or.inr ⟨by rfl, rfl⟩) rfl ?_
        refine pure_ (i := 8) (N := (some 20)) (v := undef) #[true, true, true, true, true, true, true, true, true, false, false, false] rfl rfl (by kernel_rfl) (fun _ _ _ h => h) (Or.inr ⟨by rfl, rfl⟩) rfl ?_
        refine pure_ (i := 9) (N := (some 21)) (v := undef) #[true, true, true, true, true, true, true, true, true, true, false, false] rfl rfl (by kernel_rfl) (fun _ _ _ h => h) (Or.inr ⟨by rfl, rfl⟩) rfl ?_
        refine pure_ (i := 10) (N := (some 22)) (v := undef) #[true, true, true, true, true, true, true, true, true, true, true, false] rfl rfl (by kernel_rfl) (fun _ _ _ h => h) (Or.inr ⟨by rfl, rfl⟩) rfl ?_
        refine pure_ (i := 11) (N := (some 23)) (v := ?_) (a' := ?_) #[true, true, true, true, true, true, true, true, true, true, true, true] rfl rfl (by kernel_rfl) (fun _ _ _ h => h) (Or.inl ⟨by rfl, ?_⟩) ?_ ?_
        rotate_left
        · intro w'; go_simp; with_reducible rfl
        rotate_left
        · simp only [Act.put, List.setIfInBounds_toArray, List.set_cons_zero, List.set_cons_succ, i64_w, i32_w]; rfl
        refine done_ (by kernel_rfl) ?_
        go_wp2
        go_ret
        exact ⟨ret_congr (by rw [HBF.out]; rfl), below_step (below_drew hB.out) hb1⟩
      · rw [hsz, Bool.true_and] at HOK
        have HSZ := Lib.hid hsz
        clear hsz
        have HCk := Lib.hid (C_take HC.out k (by omega))
        go_region_held3 (fun w' => w'.cell? ⟨wr.heap.size, 0, none⟩ = some (.string p.r) ∧ w'.cell? ⟨wr.heap.size, 1, none⟩ = some (.int .u64 p.n) ∧ w'.cell? ⟨wr.heap.size, 2, none⟩ = some (.string p.k))
          (first | go_keep | exact keep3 hb3 (by assumption) | exact keep3 hb2 (by assumption) | exact keep3 hb1 (by assumption))
          (first | (go_at_call 32; refine (sized_any p _).mono ?_; rw [HSZ.out]; rintro e w1 ⟨rfl, hb1⟩) | (go_at_call 34; refine (of_any p _).mono ?_; rintro e w2 ⟨rfl, hb2⟩) | (go_at_call 33; refine (place_any (some ad) k c _ p.r p.n _ (Kd.C_below HCk.out (below_step (below_step (below_drew hB.out) hb1) hb2))).mono ?_; rw [HAT.out]; rintro e w3 ⟨rfl, hb3⟩))
        by_cases hneg : at_ < 0
        · have HO := Lib.hid (show okAt xs k = true by rw [HOK.out]; exact decide_eq_true hneg)
          go_wp2
          refine ⟨⟨k + 1, by omega, by go_num, ⟨fun j hj => ?_⟩, ⟨below_step (below_step (below_step (below_drew hB.out) hb1) hb2) hb3⟩⟩, by simp [intOf]; omega⟩
          by_cases e : j = k
          · rw [e]; exact HO.out
          · exact HN.out j (by omega)
        · have HBF := Lib.hid (HBAD.out (by rw [HOK.out]; exact decide_eq_false hneg))
          go_wp2
          go_ret
          exact ⟨ret_congr (by rw [HBF.out]; rfl), below_step (below_step (below_step (below_drew hB.out) hb1) hb2) hb3⟩
    · have e : k = n := by omega
      subst e
      have HV : Hid (rightK xs = decide ((k : Int) ≤ 20)) := by
        show _ = _
        unfold rightK
        rw [show (List.range xs.length).all (okAt xs) = true from List.all_eq_true.2 fun j hj => HN.out j (by have := List.mem_range.1 hj; rw [HL.out] at this; exact this), HL.out, Bool.true_and, decide_eq_decide]
        omega
      go_wp2
      go_ret
      exact ⟨ret_congr (by rw [HV.out]; rfl), HB.out⟩
end Go.Proofs.Ytnkfdpkjphbheaa

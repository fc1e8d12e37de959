import Derived.Test.YtpafocjmheemjaaDoorShaE
set_option linter.unusedSimpArgs false
namespace Go.Proofs.YtpafocjmheemjaaDoor
open Go.RowKit Go.Proofs.YtpafocjmheemjaaDoorW.PrintWords
/-- may a sum be -/
def rightB (n : Nat) (rest : ByteArray) (m : Nat) : Bool := n == 8 && (decide (rest.size < 64) && m % 64 == rest.size)
attribute [local irreducible] Calls mixF
set_option maxHeartbeats 1000000 in
theorem Right_any (A : Option Addr) (n c : Nat) (rest : ByteArray) (m : Nat) (w : World) :
    Calls Tryd.prog 19 #[hashV A n c rest m] w fun e w' => e = .returned (.bool (rightB n rest m)) ∧ Below w.heap.size w w' := by
  unfold hashV
  have hw := wrap_u64n rest.size
  by_cases h1 : n = 8
  · have e1 : ((n : Int) == 8) = true := by rw [h1]; rfl
    by_cases h2 : rest.size < 64
    · have e2 : (rest.size : Int) < 64 := by omega
      have hw := hw (by omega)
      by_cases h3 : m % 64 = rest.size
      · have e3 : ((m : Int) % 64 == (rest.size : Int)) = true := by rw [beq_iff_eq]; omega
        have hr : rightB n rest m = true := by unfold rightB; simp [h1, h2, h3]
        rw [hr]; clear hr h1 h3
        go_enter Tryd.func19, Tryd.ntmps19
        go_wp2
        go_ret
        exact ⟨rfl, below_alloc (Below.refl _ _) _⟩
      · have e3 : ((m : Int) % 64 == (rest.size : Int)) = false := by rw [beq_eq_false_iff_ne]; omega
        have hr : rightB n rest m = false := by unfold rightB; simp [h3]
        rw [hr]; clear hr h1 h3
        go_enter Tryd.func19, Tryd.ntmps19
        go_wp2
        go_ret
        exact ⟨rfl, below_alloc (Below.refl _ _) _⟩
    · have e2 : (64 : Int) ≤ (rest.size : Int) := by omega
      have hr : rightB n rest m = false := by unfold rightB; simp [h2]
      rw [hr]; clear hr h1 h2 hw
      go_enter Tryd.func19, Tryd.ntmps19
      go_wp2
      go_ret
      exact ⟨rfl, below_alloc (Below.refl _ _) _⟩
  · have e1 : ((n : Int) == 8) = false := by rw [beq_eq_false_iff_ne]; omega
    have hr : rightB n rest m = false := by unfold rightB; simp [h1]
    rw [hr]; clear hr h1 hw
    go_enter Tryd.func19, Tryd.ntmps19
    go_wp2
    go_ret
    exact ⟨rfl, below_alloc (Below.refl _ _) _⟩
/-- what Write answers where a sum may be -/
def WriteR (B : Nat) (f : Nat → W32) (rest : ByteArray) (m : Nat) (e : Ending) (w : World) : Prop := ∃ g, B ≤ g ∧ e = .returned (.tuple #[hashV (some ⟨g, 0, none⟩) 8 8 rest m, .int .i64 0]) ∧ Row8 w (some ⟨g, 0, none⟩) f
set_option maxHeartbeats 1000000 in
theorem Write_no (A : Option Addr) (n c : Nat) (rest s : ByteArray) (m : Nat) (w : World) (hr : rightB n rest m = false) :
    Calls Tryd.prog 17 #[hashV A n c rest m, .string s] w fun e w' => e = .returned (.tuple #[hashV none 0 0 ⟨#[]⟩ 0, .int .i64 1]) ∧ Below w.heap.size w w' := by
  have HR := Right_any A n c rest m
  rw [hr] at HR
  clear hr
  replace HR := Lib.hid HR
  unfold hashV at *
  go_enter Tryd.func17, Tryd.ntmps17
  go_wp2_with fail
  refine (HR.out _).mono ?_
  rintro e w1 ⟨rfl, hb⟩
  have hc1 : ∀ j, w1.cell? ⟨w.heap.size + 1, j, none⟩ = (#[.slice none 0 0, .string ⟨#[]⟩, .int .u64 0] : Array Value)[j]? := fun j => cell_of_row _ _ j _ 25 (0, 0) ((hb.block _ (by simp)).trans (heap_alloc2_new w _ _))
  have hf1 : ∀ j, w1.frozen? ⟨w.heap.size + 1, j, none⟩ = false := fun j => frozen_of_row _ _ j _ 25 ((hb.block _ (by simp)).trans (heap_alloc2_new w _ _))
  go_wp2
  exact bodyPost_ret (v := .tuple #[.agg #[.slice none 0 0, .string ⟨#[]⟩, .int .u64 0], .int .i64 1]) (by simp [results, Tryd.results17, go_sem, *]) rfl ⟨rfl, (((below_alloc (below_alloc (Below.refl _ _) _) _ |> fun h => below_step h hb).trans (bel_set (by omega))).trans (bel_set (by omega))).trans (bel_set (by omega))⟩
set_option maxHeartbeats 1000000 in
theorem Write_yes (A : Option Addr) (c : Nat) (f : Nat → W32) (rest s : ByteArray) (m : Nat) (w : World) (hR : Row8 w A f) (hK : KeysAt w) (hr : rightB 8 rest m = true) (h2 : s.size ≤ 100000) :
    Calls Tryd.prog 17 #[hashV A 8 c rest m, .string s] w fun e w' => WriteR w.heap.size (wordsF f (rest ++ s)) (leftF (rest ++ s)) (addM m s.size) e w' ∧ Below w.heap.size w w' := by
  have h1 : rest.size < 64 := by unfold rightB at hr; simp at hr; exact hr.1
  have HR := Right_any A 8 c rest m
  rw [hr] at HR
  clear hr
  replace HR := Lib.hid HR
  have HB := Lib.hid (fun (w1 : World) (hg : Gr w w1) => behind_any A c f rest s m w1 (hR.up hg) (hK.up hg) (by omega) h2)
  clear hR hK
  unfold hashV at *
  go_enter Tryd.func17, Tryd.ntmps17
  have HO := ((Own.start w).alloc' (.cells (hashC A 8 c rest m) 25) rfl).alloc' (.cells #[.slice none 0 0, .string ⟨#[]⟩, .int .u64 0] 25) (by simp : _ = w.heap.size + 1)
  unfold hashC at HO
  go_wp2_with fail
  refine (HR.out _).mono ?_
  rintro e w1 ⟨rfl, hb⟩
  replace HO := HO.up hb
  clear hb
  have c0 := HO.cell 1 rfl
  go_wp2_with fail
  clear c0
  refine (HB.out _ HO.below).mono ?_
  rintro e w2 ⟨⟨g, hg, rfl, hR'⟩, hb⟩
  have hge : w.heap.size + 1 < g := by have := HO.lt 0 rfl; omega
  replace HO := HO.up hb
  clear hb
  have c0 := HO.cell 0 rfl
  have f0 := HO.frozen 0 rfl
  unfold hashV
  go_wp2
  exact bodyPost_ret (v := .tuple #[.agg #[.slice (some ⟨g, 0, none⟩) 8 8, .string (leftF (rest ++ s)), .int .u64 (addM m s.size : Nat)], .int .i64 0]) (by simp [results, Tryd.results17, go_sem, *]) rfl ⟨⟨g, by omega, rfl, ((hR'.set (by omega)).set (by omega)).set (by omega)⟩, ((HO.below.trans (bel_set (by omega))).trans (bel_set (by omega))).trans (bel_set (by omega))⟩
end Go.Proofs.YtpafocjmheemjaaDoor

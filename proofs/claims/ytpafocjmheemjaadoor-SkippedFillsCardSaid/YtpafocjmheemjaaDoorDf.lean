import Derived.Test.YtpafocjmheemjaaDoorDe
import Derived.Test.YtpafocjmheemjaaDoorVa
set_option linter.unusedSimpArgs false
/- LAYER 10: a chain's step. -/
namespace Go.Proofs.YtpafocjmheemjaaDoor
open Go.RowKit Go.Proofs.YtpafocjmheemjaaDoorW.PrintWords
/-- the i-th of the keys that a secret is split to -/
def nxF (secret word : ByteArray) (i : Nat) : ByteArray := (expF secret word 64).extract (32 * i) (32 * i + 32)
theorem nxF_size (secret word : ByteArray) (i : Nat) (h : i < 2) : (nxF secret word i).size = 32 := by
  unfold nxF
  rw [ByteArray.size_extract, expF_size]; omega
theorem spl_two (secret word : ByteArray) : splF secret word 2 = [nxF secret word 0, nxF secret word 1] := rfl
def rootW : ByteArray := ⟨#[114, 111, 111, 116]⟩
def stepW : ByteArray := ⟨#[115, 116, 101, 112]⟩
theorem two_cells {w : World} {A : Option Addr} {x y : ByteArray} (h : Kd.string.C w A 2 [x, y]) : ∃ bk of, A = some ⟨bk, of, none⟩ ∧ w.cell? ⟨bk, of, none⟩ = some (.string x) ∧ w.cell? ⟨bk, of + 1, none⟩ = some (.string y) := by
  obtain ⟨bk, of, hA, hc, _⟩ := C_plain h (by decide)
  exact ⟨bk, of, hA, hc 0 x rfl, hc 1 y rfl⟩
attribute [local irreducible] Calls mixF
set_option maxHeartbeats 4000000 in
set_option maxRecDepth 100000 in
theorem two_any (secret word : ByteArray) (w : World) (hs : secret.size ≤ 100000) (hw : word.size ≤ 10000) (hK : KeysAt w) :
    Calls Tryd.prog 71 #[.string secret, .string word] w fun e w' => e = .returned (.tuple #[.string (nxF secret word 0), .string (nxF secret word 1)]) ∧ Below w.heap.size w w' := by
  have HS := Lib.hid (Split_yes secret word 2 w (by decide) hs hw hK)
  rw [spl_two] at HS
  clear hK
  generalize nxF secret word 0 = x at *
  generalize nxF secret word 1 = y at *
  go_enter Tryd.func71, Tryd.ntmps71
  go_wp2_with fail
  refine HS.out.mono ?_
  rintro e w1 ⟨⟨A, c, rfl, hc, hC⟩, hb⟩
  have HB := Lib.hid hb
  obtain ⟨bk, of, rfl, c0, c1⟩ := two_cells hC
  clear hb hC HS
  go_wp2_with fail
  refine kall [(0, true, some 14), (1, true, some 15), (3, true, some 17), (4, true, some 18), (2, true, some 16), (6, true, some 4), (5, true, some 19), (7, true, some 5)] (by kernel_rfl) rfl (by kernel_rfl) rfl (fun _ _ _ _ _ h => h) ?_
  (refine sP (v := ?_) (a' := ?_) rfl rfl (by rfl) ?_ ?_ ?_; rotate_left 2; (· intro w'; go_simp; with_reducible rfl); (· simp only [Act.put, List.setIfInBounds_toArray, List.set_cons_zero, List.set_cons_succ, kw64, kw32]; rfl))
  (refine sP (v := ?_) (a' := ?_) rfl rfl (by rfl) ?_ ?_ ?_; rotate_left 2; (· intro w'; go_simp; with_reducible rfl); (· simp only [Act.put, List.setIfInBounds_toArray, List.set_cons_zero, List.set_cons_succ, kw64, kw32]; rfl))
  (refine sP (v := ?_) (a' := ?_) rfl rfl (by rfl) ?_ ?_ ?_; rotate_left 2; (· intro w'; go_simp; with_reducible rfl); (· simp only [Act.put, List.setIfInBounds_toArray, List.set_cons_zero, List.set_cons_succ, kw64, kw32]; rfl))
  (refine sP (v := ?_) (a' := ?_) rfl rfl (by rfl) ?_ ?_ ?_; rotate_left 2; (· intro w'; go_simp; with_reducible rfl); (· simp only [Act.put, List.setIfInBounds_toArray, List.set_cons_zero, List.set_cons_succ, kw64, kw32]; rfl))
  (refine sB (v := ?_) (a' := ?_) rfl rfl (by rfl) ?_ ?_ ?_; rotate_left 2; (· intro w1 hg; have h1 := pw_cell_below hg c0; have h2 := pw_cell_below hg c1; go_simp; with_reducible rfl); (· simp only [Act.put, List.setIfInBounds_toArray, List.set_cons_zero, List.set_cons_succ, kw64, kw32]; rfl))
  (refine sP (v := ?_) (a' := ?_) rfl rfl (by rfl) ?_ ?_ ?_; rotate_left 2; (· intro w'; go_simp; with_reducible rfl); (· simp only [Act.put, List.setIfInBounds_toArray, List.set_cons_zero, List.set_cons_succ, kw64, kw32]; rfl))
  (refine sB (v := ?_) (a' := ?_) rfl rfl (by rfl) ?_ ?_ ?_; rotate_left 2; (· intro w1 hg; have h1 := pw_cell_below hg c0; have h2 := pw_cell_below hg c1; go_simp; with_reducible rfl); (· simp only [Act.put, List.setIfInBounds_toArray, List.set_cons_zero, List.set_cons_succ, kw64, kw32]; rfl))
  (refine sP (v := ?_) (a' := ?_) rfl rfl (by rfl) ?_ ?_ ?_; rotate_left 2; (· intro w'; go_simp; with_reducible rfl); (· simp only [Act.put, List.setIfInBounds_toArray, List.set_cons_zero, List.set_cons_succ, kw64, kw32]; rfl))
  intro w1 hg
  replace HB := Lib.hid (below_step HB.out hg)
  clear hg
  go_wp2
  go_ret2
  exact ⟨rfl, HB.out⟩
set_option maxHeartbeats 4000000 in
theorem Root_yes (root shared : ByteArray) (w : World) (h1 : root.size = 32) (h2 : shared.size = 32) (hK : KeysAt w) :
    Calls Tryd.prog 43 #[.string root, .string shared] w fun e w' => e = .returned (.tuple #[.string (nxF (tagF root shared) rootW 0), .string (nxF (tagF root shared) rootW 1), .int .i64 0]) ∧ Below w.heap.size w w' := by
  have e1 : ((root.size : Int) != 32) = false := by rw [h1]; rfl
  have e2 : ((shared.size : Int) != 32) = false := by rw [h2]; rfl
  have HE := Lib.hid (Extract_any root shared w (by omega) (by omega) hK)
  have HT := Lib.hid (fun w1 (hg : Gr w w1) => two_any (tagF root shared) rootW w1 (by rw [tagF_size]; decide) (by decide) (hK.up hg))
  clear hK h1 h2
  generalize tagF root shared = tg at *
  generalize nxF tg rootW 0 = x at *
  generalize nxF tg rootW 1 = y at *
  unfold rootW at HT
  go_enter Tryd.func43, Tryd.ntmps43
  go_wp2_with fail
  refine HE.out.mono ?_
  rintro e w1 ⟨rfl, hb⟩
  have HB := Lib.hid hb
  clear hb
  go_wp2_with fail
  refine (HT.out _ HB.out).mono ?_
  rintro e w2 ⟨rfl, hb⟩
  replace HB := Lib.hid (below_step HB.out hb)
  clear hb
  go_wp2
  go_ret3
  exact ⟨rfl, HB.out⟩
set_option maxHeartbeats 4000000 in
theorem Root_no (root shared : ByteArray) (w : World) (h : ¬ (root.size = 32 ∧ shared.size = 32)) :
    Calls Tryd.prog 43 #[.string root, .string shared] w fun e w' => e = .returned (.tuple #[.string ⟨#[]⟩, .string ⟨#[]⟩, .int .i64 2]) ∧ Below w.heap.size w w' := by
  by_cases h1 : root.size = 32
  · have e1 : ((root.size : Int) != 32) = false := by rw [h1]; rfl
    have e2 : ((shared.size : Int) != 32) = true := by rw [bne_iff_ne]; intro hh; exact h ⟨h1, by omega⟩
    clear h h1
    go_enter Tryd.func43, Tryd.ntmps43
    go_wp2
    go_ret3
    exact ⟨rfl, Below.refl _ _⟩
  · have e1 : ((root.size : Int) != 32) = true := by rw [bne_iff_ne]; omega
    clear h h1
    go_enter Tryd.func43, Tryd.ntmps43
    go_wp2
    go_ret3
    exact ⟨rfl, Below.refl _ _⟩
/-- a chain's step -/
def stN (c : ByteArray) : ByteArray := nxF c stepW 0
def stK (c : ByteArray) : ByteArray := nxF c stepW 1
theorem stN_size (c : ByteArray) : (stN c).size = 32 := nxF_size _ _ _ (by decide)
theorem stK_size (c : ByteArray) : (stK c).size = 32 := nxF_size _ _ _ (by decide)
set_option maxHeartbeats 4000000 in
theorem Step_yes (c : ByteArray) (w : World) (h1 : c.size = 32) (hK : KeysAt w) :
    Calls Tryd.prog 44 #[.string c] w fun e w' => e = .returned (.tuple #[.string (stN c), .string (stK c), .int .i64 0]) ∧ Below w.heap.size w w' := by
  have e1 : ((c.size : Int) != 32) = false := by rw [h1]; rfl
  have HT := Lib.hid (two_any c stepW w (by omega) (by decide) hK)
  clear hK h1
  unfold stN stK
  generalize nxF c stepW 0 = x at *
  generalize nxF c stepW 1 = y at *
  unfold stepW at HT
  go_enter Tryd.func44, Tryd.ntmps44
  go_wp2_with fail
  refine HT.out.mono ?_
  rintro e w2 ⟨rfl, hb⟩
  have HB := Lib.hid hb
  clear hb
  go_wp2
  go_ret3
  exact ⟨rfl, HB.out⟩
theorem Step_no (c : ByteArray) (w : World) (h1 : c.size ≠ 32) :
    Calls Tryd.prog 44 #[.string c] w fun e w' => e = .returned (.tuple #[.string ⟨#[]⟩, .string ⟨#[]⟩, .int .i64 2]) ∧ Below w.heap.size w w' := by
  have e1 : ((c.size : Int) != 32) = true := by rw [bne_iff_ne]; omega
  clear h1
  go_enter Tryd.func44, Tryd.ntmps44
  go_wp2
  go_ret3
  exact ⟨rfl, Below.refl _ _⟩
set_option maxHeartbeats 4000000 in
set_option maxRecDepth 100000 in
theorem RStep_any (A1 : Option Addr) (c1 : Nat) (A2 : Option Addr) (c2 : Nat) (c : ByteArray) (w : World) (hK : KAt w A1 c1 A2 c2) (hs : c.size ≤ 80000) :
    Calls Tryd.prog 47 #[kV A1 c1 A2 c2, .string c] w fun e w' => e = .returned (.agg #[.string (stN c), .string (stK c)]) ∧ Below w.heap.size w w' := by
  have HS := Lib.hid (fun w1 (hg : Gr w w1) => RSplit_any A1 c1 A2 c2 c stepW 2 w1 (by decide) hs (by decide) (hK.up hg))
  rw [spl_two] at HS
  unfold stN stK
  clear hK
  generalize nxF c stepW 0 = x at *
  generalize nxF c stepW 1 = y at *
  unfold kV stepW at *
  have HO := ((Own.start w).alloc' (.cells #[.slice A1 64 c1, .slice A2 8 c2] 37) rfl).alloc' (.cells #[.string ⟨#[]⟩, .string ⟨#[]⟩] 64) (by simp : _ = w.heap.size + 1)
  go_enter Tryd.func47, Tryd.ntmps47
  have c0 := HO.cell 1 rfl
  go_wp2_with fail
  clear c0
  refine (HS.out _ HO.below).mono ?_
  rintro e w1 ⟨⟨A, cp, rfl, hc, hC⟩, hb⟩
  replace HO := HO.up hb
  obtain ⟨bk, of, rfl, cc0, cc1⟩ := two_cells hC
  clear hb hC HS
  go_wp2_with fail
  refine bstart (fun _ => w.heap.size) (n := 8) (ds := [7]) #[false, false, false, false, false, false, false, false] (by kernel_rfl) rfl rfl HO.below.size (fun HBS => ?_)
  refine bseq (m := 1) (.inl rfl) [(0, true, some 9), (1, true, some 10), (3, true, some 12), (4, true, some 13), (2, false, some 11), (5, false, some 14), (6, true, some 15)] #[true, true, true, true, true, true, true, false] HBS (by kernel_rfl) rfl (fun _ _ _ _ _ h => h) ?_
  (refine sP (v := ?_) (a' := ?_) rfl rfl (by rfl) ?_ ?_ ?_; rotate_left 2; (· intro w'; go_simp; with_reducible rfl); (· simp only [Act.put, List.setIfInBounds_toArray, List.set_cons_zero, List.set_cons_succ, kw64, kw32]; rfl))
  (refine sP (v := ?_) (a' := ?_) rfl rfl (by rfl) ?_ ?_ ?_; rotate_left 2; (· intro w'; go_simp; with_reducible rfl); (· simp only [Act.put, List.setIfInBounds_toArray, List.set_cons_zero, List.set_cons_succ, kw64, kw32]; rfl))
  (refine sP (v := ?_) (a' := ?_) rfl rfl (by rfl) ?_ ?_ ?_; rotate_left 2; (· intro w'; go_simp; with_reducible rfl); (· simp only [Act.put, List.setIfInBounds_toArray, List.set_cons_zero, List.set_cons_succ, kw64, kw32]; rfl))
  (refine sP (v := ?_) (a' := ?_) rfl rfl (by rfl) ?_ ?_ ?_; rotate_left 2; (· intro w'; go_simp; with_reducible rfl); (· simp only [Act.put, List.setIfInBounds_toArray, List.set_cons_zero, List.set_cons_succ, kw64, kw32]; rfl))
  (refine sL (v := ?_) (a' := ?_) rfl rfl (by rfl) ?_ ?_ ?_; rotate_left 2; (· intro w1 hg; have h1 := pw_cell_below hg cc0; have h2 := pw_cell_below hg cc1; go_simp; with_reducible rfl); (· simp only [Act.put, List.setIfInBounds_toArray, List.set_cons_zero, List.set_cons_succ, kw64, kw32]; rfl))
  (refine sL (v := ?_) (a' := ?_) rfl rfl (by rfl) ?_ ?_ ?_; rotate_left 2; (· intro w1 hg; have h1 := pw_cell_below hg cc0; have h2 := pw_cell_below hg cc1; go_simp; with_reducible rfl); (· simp only [Act.put, List.setIfInBounds_toArray, List.set_cons_zero, List.set_cons_succ, kw64, kw32]; rfl))
  (refine sP (v := ?_) (a' := ?_) rfl rfl (by rfl) ?_ ?_ ?_; rotate_left 2; (· intro w'; go_simp; with_reducible rfl); (· simp only [Act.put, List.setIfInBounds_toArray, List.set_cons_zero, List.set_cons_succ, kw64, kw32]; rfl))
  refine bone (i := 7) (N := none) #[true, true, true, true, true, true, true, true] rfl rfl (by kernel_rfl) HBS (fun w1 hg K hK => ?_)
  rw [if_pos (by rfl)]
  replace HO := HO.up hg
  have cS := HO.cell 0 rfl
  have fS := HO.frozen 0 rfl
  go_simp
  refine hK _ _ (in_ds (by decide) ((bel_set (by omega)).trans (bel_set (by omega)))) (fun HBS => ?_)
  replace HO := HO.set' 0 rfl 0 (.string x) (L' := [(w.heap.size + 1, .cells #[(.string x), (.string ⟨#[]⟩)] 64 (0, 0)), (w.heap.size, .cells #[.slice A1 64 c1, .slice A2 8 c2] 37 (0, 0))]) rfl
  replace HO := HO.set' 0 rfl 1 (.string y) (L' := [(w.heap.size + 1, .cells #[(.string x), (.string y)] 64 (0, 0)), (w.heap.size, .cells #[.slice A1 64 c1, .slice A2 8 c2] 37 (0, 0))]) rfl
  clear cS fS hg K hK
  revert HO HBS
  generalize World.setCell (World.setCell _ _ _) _ _ = wb
  intro HBS HO
  refine bdone (by kernel_rfl) (fun w1 hg => ?_)
  replace HO := HO.up hg
  clear hg
  go_wp2
  exact bodyPost_ret (v := .agg #[.string x, .string y]) (results_cell_row Tryd.results47 _ _ (w.heap.size + 1) 64 _ (0, 0) _ (by rfl) (HO.blk 0 rfl) Tryd.underlying64 rfl (by kernel_rfl)) rfl ⟨rfl, HO.below⟩
set_option maxHeartbeats 4000000 in
set_option maxRecDepth 100000 in
theorem RRoot_any (A1 : Option Addr) (c1 : Nat) (A2 : Option Addr) (c2 : Nat) (root shared : ByteArray) (w : World) (hK : KAt w A1 c1 A2 c2) (h1 : root.size ≤ 80000) (h2 : shared.size ≤ 80000) :
    Calls Tryd.prog 45 #[kV A1 c1 A2 c2, .string root, .string shared] w fun e w' => e = .returned (.agg #[.string (nxF (tagF root shared) rootW 0), .string (nxF (tagF root shared) rootW 1)]) ∧ Below w.heap.size w w' := by
  have HT := Lib.hid (fun w1 (hg : Gr w w1) => RTag_any A1 c1 A2 c2 root shared w1 (hK.up hg) (by omega) (by omega))
  have HS := Lib.hid (fun w1 (hg : Gr w w1) => RSplit_any A1 c1 A2 c2 (tagF root shared) rootW 2 w1 (by decide) (by rw [tagF_size]; decide) (by decide) (hK.up hg))
  rw [spl_two] at HS
  clear hK
  generalize tagF root shared = tg at *
  generalize nxF tg rootW 0 = x at *
  generalize nxF tg rootW 1 = y at *
  unfold kV rootW at *
  have HO := ((Own.start w).alloc' (.cells #[.slice A1 64 c1, .slice A2 8 c2] 37) rfl).alloc' (.cells #[.string ⟨#[]⟩, .string ⟨#[]⟩] 64) (by simp : _ = w.heap.size + 1)
  go_enter Tryd.func45, Tryd.ntmps45
  go_wp2_with fail
  refine bstart (fun w => w.heap.size) (n := 7) (ds := []) #[false, false, false, false, false, false, false] (by kernel_rfl) rfl rfl (Nat.le_refl _) (fun HBS => ?_)
  refine bseq (m := 2) (.inl rfl) [(2, true, some 10), (3, true, some 11), (0, true, some 8), (1, true, some 9), (4, true, some 12)] #[true, true, true, true, true, false, false] HBS (by kernel_rfl) rfl (fun _ _ _ _ _ h => h) ?_
  (refine sP (v := ?_) (a' := ?_) rfl rfl (by rfl) ?_ ?_ ?_; rotate_left 2; (· intro w'; go_simp; with_reducible rfl); (· simp only [Act.put, List.setIfInBounds_toArray, List.set_cons_zero, List.set_cons_succ, kw64, kw32]; rfl))
  (refine sP (v := ?_) (a' := ?_) rfl rfl (by rfl) ?_ ?_ ?_; rotate_left 2; (· intro w'; go_simp; with_reducible rfl); (· simp only [Act.put, List.setIfInBounds_toArray, List.set_cons_zero, List.set_cons_succ, kw64, kw32]; rfl))
  (refine sB (v := ?_) (a' := ?_) rfl rfl (by rfl) ?_ ?_ ?_; rotate_left 2; (· intro w1 hg; (refine Eq.trans (run_load_row 37 (.tmp 3) rfl w.heap.size (by rfl) _ #[.slice A1 64 c1, .slice A2 8 c2] _ _ ((HO.up hg).blk 1 rfl) Tryd.underlying37 rfl (by kernel_rfl)) ?_; with_reducible rfl)); (· simp only [Act.put, List.setIfInBounds_toArray, List.set_cons_zero, List.set_cons_succ, kw64, kw32]; rfl))
  (refine sB (v := ?_) (a' := ?_) rfl rfl (by rfl) ?_ ?_ ?_; rotate_left 2; (· intro w1 hg; (refine Eq.trans (run_load_row 37 (.tmp 3) rfl w.heap.size (by rfl) _ #[.slice A1 64 c1, .slice A2 8 c2] _ _ ((HO.up hg).blk 1 rfl) Tryd.underlying37 rfl (by kernel_rfl)) ?_; with_reducible rfl)); (· simp only [Act.put, List.setIfInBounds_toArray, List.set_cons_zero, List.set_cons_succ, kw64, kw32]; rfl))
  (refine sD (v := ?_) (a' := ?_) Tryd.func32 rfl rfl (by rfl) rfl (by kernel_rfl) rfl (by rfl) ?_ ?_ ?_; rotate_left 2; (· intro w1 hg; exact HT.out w1 (HO.up hg).below); (· simp only [Act.put, List.setIfInBounds_toArray, List.set_cons_zero, List.set_cons_succ, kw64, kw32]; rfl))
  refine bone (i := 5) (N := (some 13)) #[true, true, true, true, true, true, false] rfl rfl (by kernel_rfl) HBS (fun w1 hg K hK => ?_)
  rw [if_pos (by rfl)]
  replace HO := HO.up hg
  refine wp_call Tryd.func41 rfl (by kernel_rfl) rfl (by rfl) ((HS.out _ HO.below).mono ?_)
  rintro e w8 ⟨⟨A, cp, rfl, hc, hC⟩, hb⟩
  refine ⟨_, rfl, hK _ _ (not_ds (by decide) hb) (fun HBS => ?_)⟩
  replace HO := HO.up hb
  clear hg hb
  refine at_dst (some 13) rfl ?_
  simp only [Act.put, List.setIfInBounds_toArray, List.set_cons_zero, List.set_cons_succ]
  refine bseq (m := 0) (.inl rfl) [(6, true, some 7)] #[true, true, true, true, true, true, true] HBS (by kernel_rfl) rfl (fun _ _ _ _ _ h => h) ?_
  (refine sP (v := ?_) (a' := ?_) rfl rfl (by rfl) ?_ ?_ ?_; rotate_left 2; (· intro w'; go_simp; with_reducible rfl); (· simp only [Act.put, List.setIfInBounds_toArray, List.set_cons_zero, List.set_cons_succ, kw64, kw32]; rfl))
  refine bdone (by kernel_rfl) (fun w1 hg => ?_)
  replace HO := HO.up hg
  replace hC := Kd.C_below hC hg
  obtain ⟨bk, of, rfl, cc0, cc1⟩ := two_cells hC
  clear hg hC HS HT
  go_wp2_with fail
  refine bstart (fun _ => w.heap.size) (n := 8) (ds := [7]) #[false, false, false, false, false, false, false, false] (by kernel_rfl) rfl rfl HO.below.size (fun HBS => ?_)
  refine bseq (m := 1) (.inl rfl) [(0, true, some 14), (1, true, some 15), (3, true, some 17), (4, true, some 18), (2, false, some 16), (5, false, some 19), (6, true, some 20)] #[true, true, true, true, true, true, true, false] HBS (by kernel_rfl) rfl (fun _ _ _ _ _ h => h) ?_
  (refine sP (v := ?_) (a' := ?_) rfl rfl (by rfl) ?_ ?_ ?_; rotate_left 2; (· intro w'; go_simp; with_reducible rfl); (· simp only [Act.put, List.setIfInBounds_toArray, List.set_cons_zero, List.set_cons_succ, kw64, kw32]; rfl))
  (refine sP (v := ?_) (a' := ?_) rfl rfl (by rfl) ?_ ?_ ?_; rotate_left 2; (· intro w'; go_simp; with_reducible rfl); (· simp only [Act.put, List.setIfInBounds_toArray, List.set_cons_zero, List.set_cons_succ, kw64, kw32]; rfl))
  (refine sP (v := ?_) (a' := ?_) rfl rfl (by rfl) ?_ ?_ ?_; rotate_left 2; (· intro w'; go_simp; with_reducible rfl); (· simp only [Act.put, List.setIfInBounds_toArray, List.set_cons_zero, List.set_cons_succ, kw64, kw32]; rfl))
  (refine sP (v := ?_) (a' := ?_) rfl rfl (by rfl) ?_ ?_ ?_; rotate_left 2; (· intro w'; go_simp; with_reducible rfl); (· simp only [Act.put, List.setIfInBounds_toArray, List.set_cons_zero, List.set_cons_succ, kw64, kw32]; rfl))
  (refine sL (v := ?_) (a' := ?_) rfl rfl (by rfl) ?_ ?_ ?_; rotate_left 2; (· intro w1 hg; have h1 := pw_cell_below hg cc0; have h2 := pw_cell_below hg cc1; go_simp; with_reducible rfl); (· simp only [Act.put, List.setIfInBounds_toArray, List.set_cons_zero, List.set_cons_succ, kw64, kw32]; rfl))
  (refine sL (v := ?_) (a' := ?_) rfl rfl (by rfl) ?_ ?_ ?_; rotate_left 2; (· intro w1 hg; have h1 := pw_cell_below hg cc0; have h2 := pw_cell_below hg cc1; go_simp; with_reducible rfl); (· simp only [Act.put, List.setIfInBounds_toArray, List.set_cons_zero, List.set_cons_succ, kw64, kw32]; rfl))
  (refine sP (v := ?_) (a' := ?_) rfl rfl (by rfl) ?_ ?_ ?_; rotate_left 2; (· intro w'; go_simp; with_reducible rfl); (· simp only [Act.put, List.setIfInBounds_toArray, List.set_cons_zero, List.set_cons_succ, kw64, kw32]; rfl))
  refine bone (i := 7) (N := none) #[true, true, true, true, true, true, true, true] rfl rfl (by kernel_rfl) HBS (fun w1 hg K hK => ?_)
  rw [if_pos (by rfl)]
  replace HO := HO.up hg
  have cS := HO.cell 0 rfl
  have fS := HO.frozen 0 rfl
  go_simp
  refine hK _ _ (in_ds (by decide) ((bel_set (by omega)).trans (bel_set (by omega)))) (fun HBS => ?_)
  replace HO := HO.set' 0 rfl 0 (.string x) (L' := [(w.heap.size + 1, .cells #[(.string x), (.string ⟨#[]⟩)] 64 (0, 0)), (w.heap.size, .cells #[.slice A1 64 c1, .slice A2 8 c2] 37 (0, 0))]) rfl
  replace HO := HO.set' 0 rfl 1 (.string y) (L' := [(w.heap.size + 1, .cells #[(.string x), (.string y)] 64 (0, 0)), (w.heap.size, .cells #[.slice A1 64 c1, .slice A2 8 c2] 37 (0, 0))]) rfl
  clear cS fS hg K hK
  revert HO HBS
  generalize World.setCell (World.setCell _ _ _) _ _ = wb
  intro HBS HO
  refine bdone (by kernel_rfl) (fun w1 hg => ?_)
  replace HO := HO.up hg
  clear hg
  go_wp2
  exact bodyPost_ret (v := .agg #[.string x, .string y]) (results_cell_row Tryd.results45 _ _ (w.heap.size + 1) 64 _ (0, 0) _ (by rfl) (HO.blk 0 rfl) Tryd.underlying64 rfl (by kernel_rfl)) rfl ⟨rfl, HO.below⟩
end Go.Proofs.YtpafocjmheemjaaDoor

set_option linter.unusedSimpArgs false
/- LAYER 10: any root's step, and any chain's. -/
namespace Go.Proofs.YtpafocjmheemjaaDoor
open Go.RowKit Go.Proofs.YtpafocjmheemjaaDoorW.PrintWords
theorem eqP (d : Nat) (w : World) (x0 y0 x1 y1 : ByteArray) :
    (Op.equalIn (d + 2) 64 (.agg #[.string x0, .string x1]) (.agg #[.string y0, .string y1])).run Tryd.prog w = .ok (x0.toList == y0.toList && (x1.toList == y1.toList)) w := by
  refine eqA_of Tryd.underlying64 (by kernel_rfl) ?_
  refine eqf_cons (by rfl) (by go_simp; rfl) (by go_simp; rfl) (by go_simp) ?_
  exact eqf_last (by rfl) (by go_simp; rfl) (by go_simp; rfl) (by go_simp)
attribute [local irreducible] Calls mixF
theorem eqGP (op : BinOp) (x y : Operand) (xs ys : Array Value) (w : World) : (eqGuard op 64 x y (.agg xs) (.agg ys)).run Tryd.prog w = .ok () w := run_eqGuard_agg w op 64 x y xs ys Tryd.eqGuardType64
theorem eqPE (w : World) (x0 y0 x1 y1 : ByteArray) :
    (binOp .eql 64 (.agg #[.string x0, .string x1]) (.agg #[.string y0, .string y1])).run Tryd.prog w = .ok (.bool (x0.toList == y0.toList && (x1.toList == y1.toList))) w := by
  rw [run_eql_struct, show (10000 : Nat) = 9998 + 2 from rfl, eqP]
  rfl
theorem eqPN (w : World) (x0 y0 x1 y1 : ByteArray) :
    (binOp .neq 64 (.agg #[.string x0, .string x1]) (.agg #[.string y0, .string y1])).run Tryd.prog w = .ok (.bool (!(x0.toList == y0.toList && (x1.toList == y1.toList)))) w := by
  rw [run_neq_struct, show (10000 : Nat) = 9998 + 2 from rfl, eqP]
  rfl
theorem cut10 (s : ByteArray) (w : World) : Calls Tryd.prog 42 #[.string s] w fun e w' => e = .returned (.string (headB s 40)) ∧ Below w.heap.size w w' := by
  go_enter Tryd.func42, Tryd.ntmps42
  go_wp2
  go_ret
  exact ⟨by rw [headB, ← show (min (s.size : Int) 40).toNat = min s.size 40 by omega]; rfl, Below.refl _ _⟩
def key16 : ByteArray := ⟨#[48, 49, 50, 51, 52, 53, 54, 55, 56, 57, 97, 98, 99, 100, 101, 102, 48, 49, 50, 51, 52, 53, 54, 55, 56, 57, 97, 98, 99, 100, 101, 102]⟩
set_option maxHeartbeats 1000000 in
theorem alive10 (w : World) (hK : KeysAt w) : Calls Tryd.prog 46 #[] w fun e w' => e = .returned (.bool true) ∧ Below w.heap.size w w' := by
  have HT := Lib.hid (Step_yes key16 w rfl hK)
  have h1 := stN_size key16
  have h2 := stK_size key16
  clear hK
  generalize stN key16 = x at *
  generalize stK key16 = y at *
  unfold key16 at HT
  have e1 : ((x.size : Int) == 32) = true := by rw [h1]; rfl
  have e2 : ((y.size : Int) == 32) = true := by rw [h2]; rfl
  clear h1 h2
  go_enter Tryd.func46, Tryd.ntmps46
  go_wp2_with fail
  refine HT.out.mono ?_
  rintro e w1 ⟨rfl, hb⟩
  go_wp2
  go_ret
  exact ⟨rfl, hb⟩
set_option maxHeartbeats 8000000 in
set_option maxRecDepth 100000 in
theorem ChainSteps_yy (root0 shared0 c0 : ByteArray) (W : World) (hr1 : (headB root0 40).size = 32) (hr2 : (headB shared0 40).size = 32) (hc1 : (headB c0 40).size = 32) (hK : KeysAt W) :
    Calls Tryd.prog 9 #[.string root0, .string shared0, .string c0] W fun e W' => e = .returned (.bool true) ∧ Below W.heap.size W W' := by
  have h1 := headB_size root0 40
  have h2 := headB_size shared0 40
  have h3 := headB_size c0 40
  have HC1 := Lib.hid (cut10 root0)
  have HC2 := Lib.hid (cut10 shared0)
  have HC3 := Lib.hid (cut10 c0)
  generalize headB root0 40 = root at *
  generalize headB shared0 40 = shared at *
  generalize headB c0 40 = c at *
  have HAl := Lib.hid (fun w1 (hg : Gr W w1) => alive10 w1 (hK.up hg))
  have HRR := Lib.hid (fun A1 c1 A2 c2 w1 (hk : KAt w1 A1 c1 A2 c2) => RRoot_any A1 c1 A2 c2 root shared w1 hk (by omega) (by omega))
  have HRS := Lib.hid (fun A1 c1 A2 c2 w1 (hk : KAt w1 A1 c1 A2 c2) => RStep_any A1 c1 A2 c2 c w1 hk (by omega))
  have hee : (⟨#[]⟩ : ByteArray) ++ ⟨#[]⟩ = ⟨#[]⟩ := rfl
  unfold kV at *
  have HO := Own.start W
  have er : ((root.size : Int) == 32) = true := by rw [hr1]; rfl
  have es : ((shared.size : Int) == 32) = true := by rw [hr2]; rfl
  have HR := Lib.hid (fun w1 (hg : Gr W w1) => Root_yes root shared w1 hr1 hr2 (hK.up hg))
  generalize nxF (tagF root shared) rootW 0 = x0 at *
  generalize nxF (tagF root shared) rootW 1 = x1 at *
  have hx0 : (x0.toList == x0.toList) = true := by simp
  have hx1 : (x1.toList == x1.toList) = true := by simp
  obtain ⟨v, hv⟩ : ∃ v, Value.agg #[.string x0, .string x1] = v := ⟨_, rfl⟩
  rw [hv] at HRR
  have HV := Lib.hid hv
  clear hv
  have HS := Lib.hid (fun w1 (hg : Gr W w1) => Step_yes c w1 hc1 (hK.up hg))
  generalize stN c = y0 at *
  generalize stK c = y1 at *
  have hy0 : (y0.toList == y0.toList) = true := by simp
  have hy1 : (y1.toList == y1.toList) = true := by simp
  obtain ⟨u, hu⟩ : ∃ u, Value.agg #[.string y0, .string y1] = u := ⟨_, rfl⟩
  rw [hu] at HRS
  have HU := Lib.hid hu
  clear hu
  have ec : ((c.size : Int) != 32) = false := by rw [hc1]; rfl
  clear hK hc1 h1 h2 h3 hr1 hr2
  go_enter Tryd.func9, Tryd.ntmps9
  go_wp2_with fail
  refine (HC1.out _).mono ?_
  rintro e w3 ⟨rfl, hb⟩
  replace HO := HO.up hb
  clear hb
  go_wp2_with fail
  refine (HC2.out _).mono ?_
  rintro e w3 ⟨rfl, hb⟩
  replace HO := HO.up hb
  clear hb
  go_wp2_with fail
  refine (HC3.out _).mono ?_
  rintro e w3 ⟨rfl, hb⟩
  replace HO := HO.up hb
  clear hb
  go_wp2_with fail
  refine (HR.out _ HO.below).mono ?_
  rintro e w3 ⟨rfl, hb⟩
  replace HO := HO.up hb
  clear hb
  go_wp2_with fail
  refine (HS.out _ HO.below).mono ?_
  rintro e w3 ⟨rfl, hb⟩
  replace HO := HO.up hb
  clear hb
  go_wp2_with fail
  refine (Numbers_any _).mono ?_
  rintro e w4 ⟨⟨A1, c1, A2, c2, rfl, hk⟩, hb⟩
  replace HO := HO.up hb
  clear hb
  unfold kV
  replace HO := HO.alloc' (.cells #[.slice A1 64 c1, .slice A2 8 c2] 37) rfl
  have HKK := Lib.hid (hk.up (below_alloc (Below.refl _ _) (.cells #[.slice A1 64 c1, .slice A2 8 c2] 37)))
  clear hk
  have cc0 := HO.cell 0 rfl
  go_wp2_with fail
  clear cc0
  generalize w4.heap.size = gk at *
  generalize World.alloc w4 _ = w5 at *
  refine (HRR.out _ _ _ _ _ HKK.out).mono ?_
  rintro e w3 ⟨rfl, hb⟩
  replace HO := HO.up hb
  replace HKK := Lib.hid (HKK.out.up hb)
  clear hb
  go_wp2_with fail
  rw [← HV.out, eqGP, Result.andThen_ok, eqPN, hx0, hx1, Result.andThen_ok]
  go_wp2_with fail
  refine (HAl.out _ HO.below).mono ?_
  rintro e w3 ⟨rfl, hb⟩
  replace HO := HO.up hb
  replace HKK := Lib.hid (HKK.out.up hb)
  clear hb
  have cc0 := HO.cell 0 rfl
  go_wp2_with fail
  clear cc0
  refine (HRS.out _ _ _ _ _ HKK.out).mono ?_
  rintro e w3 ⟨rfl, hb⟩
  replace HO := HO.up hb
  replace HKK := Lib.hid (HKK.out.up hb)
  clear hb
  go_wp2_with fail
  rw [← HU.out, eqGP, Result.andThen_ok, eqPE, hy0, hy1, Result.andThen_ok]
  go_wp2
  go_ret
  exact ⟨rfl, HO.below⟩
set_option maxHeartbeats 8000000 in
set_option maxRecDepth 100000 in
theorem ChainSteps_yn (root0 shared0 c0 : ByteArray) (W : World) (hr1 : (headB root0 40).size = 32) (hr2 : (headB shared0 40).size = 32) (hc1 : (headB c0 40).size ≠ 32) (hK : KeysAt W) :
    Calls Tryd.prog 9 #[.string root0, .string shared0, .string c0] W fun e W' => e = .returned (.bool true) ∧ Below W.heap.size W W' := by
  have h1 := headB_size root0 40
  have h2 := headB_size shared0 40
  have h3 := headB_size c0 40
  have HC1 := Lib.hid (cut10 root0)
  have HC2 := Lib.hid (cut10 shared0)
  have HC3 := Lib.hid (cut10 c0)
  generalize headB root0 40 = root at *
  generalize headB shared0 40 = shared at *
  generalize headB c0 40 = c at *
  have HAl := Lib.hid (fun w1 (hg : Gr W w1) => alive10 w1 (hK.up hg))
  have HRR := Lib.hid (fun A1 c1 A2 c2 w1 (hk : KAt w1 A1 c1 A2 c2) => RRoot_any A1 c1 A2 c2 root shared w1 hk (by omega) (by omega))
  have HRS := Lib.hid (fun A1 c1 A2 c2 w1 (hk : KAt w1 A1 c1 A2 c2) => RStep_any A1 c1 A2 c2 c w1 hk (by omega))
  have hee : (⟨#[]⟩ : ByteArray) ++ ⟨#[]⟩ = ⟨#[]⟩ := rfl
  unfold kV at *
  have HO := Own.start W
  have er : ((root.size : Int) == 32) = true := by rw [hr1]; rfl
  have es : ((shared.size : Int) == 32) = true := by rw [hr2]; rfl
  have HR := Lib.hid (fun w1 (hg : Gr W w1) => Root_yes root shared w1 hr1 hr2 (hK.up hg))
  generalize nxF (tagF root shared) rootW 0 = x0 at *
  generalize nxF (tagF root shared) rootW 1 = x1 at *
  have hx0 : (x0.toList == x0.toList) = true := by simp
  have hx1 : (x1.toList == x1.toList) = true := by simp
  obtain ⟨v, hv⟩ : ∃ v, Value.agg #[.string x0, .string x1] = v := ⟨_, rfl⟩
  rw [hv] at HRR
  have HV := Lib.hid hv
  clear hv
  have HS := Lib.hid (fun w1 => Step_no c w1 hc1)
  have ec : ((c.size : Int) != 32) = true := by rw [bne_iff_ne]; omega
  clear HRS
  clear hK hc1 h1 h2 h3 hr1 hr2
  go_enter Tryd.func9, Tryd.ntmps9
  go_wp2_with fail
  refine (HC1.out _).mono ?_
  rintro e w3 ⟨rfl, hb⟩
  replace HO := HO.up hb
  clear hb
  go_wp2_with fail
  refine (HC2.out _).mono ?_
  rintro e w3 ⟨rfl, hb⟩
  replace HO := HO.up hb
  clear hb
  go_wp2_with fail
  refine (HC3.out _).mono ?_
  rintro e w3 ⟨rfl, hb⟩
  replace HO := HO.up hb
  clear hb
  go_wp2_with fail
  refine (HR.out _ HO.below).mono ?_
  rintro e w3 ⟨rfl, hb⟩
  replace HO := HO.up hb
  clear hb
  go_wp2_with fail
  refine (HS.out _).mono ?_
  rintro e w3 ⟨rfl, hb⟩
  replace HO := HO.up hb
  clear hb
  go_wp2_with fail
  refine (Numbers_any _).mono ?_
  rintro e w4 ⟨⟨A1, c1, A2, c2, rfl, hk⟩, hb⟩
  replace HO := HO.up hb
  clear hb
  unfold kV
  replace HO := HO.alloc' (.cells #[.slice A1 64 c1, .slice A2 8 c2] 37) rfl
  have HKK := Lib.hid (hk.up (below_alloc (Below.refl _ _) (.cells #[.slice A1 64 c1, .slice A2 8 c2] 37)))
  clear hk
  have cc0 := HO.cell 0 rfl
  go_wp2_with fail
  clear cc0
  generalize w4.heap.size = gk at *
  generalize World.alloc w4 _ = w5 at *
  refine (HRR.out _ _ _ _ _ HKK.out).mono ?_
  rintro e w3 ⟨rfl, hb⟩
  replace HO := HO.up hb
  replace HKK := Lib.hid (HKK.out.up hb)
  clear hb
  go_wp2_with fail
  rw [← HV.out, eqGP, Result.andThen_ok, eqPN, hx0, hx1, Result.andThen_ok]
  go_wp2_with fail
  refine (HAl.out _ HO.below).mono ?_
  rintro e w3 ⟨rfl, hb⟩
  replace HO := HO.up hb
  replace HKK := Lib.hid (HKK.out.up hb)
  clear hb
  go_wp2
  go_ret
  exact ⟨rfl, HO.below⟩
set_option maxHeartbeats 8000000 in
set_option maxRecDepth 100000 in
theorem ChainSteps_my (root0 shared0 c0 : ByteArray) (W : World) (hr1 : (headB root0 40).size = 32) (hr2 : (headB shared0 40).size ≠ 32) (hc1 : (headB c0 40).size = 32) (hK : KeysAt W) :
    Calls Tryd.prog 9 #[.string root0, .string shared0, .string c0] W fun e W' => e = .returned (.bool true) ∧ Below W.heap.size W W' := by
  have h1 := headB_size root0 40
  have h2 := headB_size shared0 40
  have h3 := headB_size c0 40
  have HC1 := Lib.hid (cut10 root0)
  have HC2 := Lib.hid (cut10 shared0)
  have HC3 := Lib.hid (cut10 c0)
  generalize headB root0 40 = root at *
  generalize headB shared0 40 = shared at *
  generalize headB c0 40 = c at *
  have HAl := Lib.hid (fun w1 (hg : Gr W w1) => alive10 w1 (hK.up hg))
  have HRR := Lib.hid (fun A1 c1 A2 c2 w1 (hk : KAt w1 A1 c1 A2 c2) => RRoot_any A1 c1 A2 c2 root shared w1 hk (by omega) (by omega))
  have HRS := Lib.hid (fun A1 c1 A2 c2 w1 (hk : KAt w1 A1 c1 A2 c2) => RStep_any A1 c1 A2 c2 c w1 hk (by omega))
  have hee : (⟨#[]⟩ : ByteArray) ++ ⟨#[]⟩ = ⟨#[]⟩ := rfl
  unfold kV at *
  have HO := Own.start W
  have er : ((root.size : Int) == 32) = true := by rw [hr1]; rfl
  have es : ((shared.size : Int) == 32) = false := by rw [beq_eq_false_iff_ne]; omega
  have hno : ¬ (root.size = 32 ∧ shared.size = 32) := fun h => hr2 h.2
  clear hr1 hr2
  have HR := Lib.hid (fun w1 => Root_no root shared w1 hno)
  clear HRR
  have HS := Lib.hid (fun w1 (hg : Gr W w1) => Step_yes c w1 hc1 (hK.up hg))
  generalize stN c = y0 at *
  generalize stK c = y1 at *
  have hy0 : (y0.toList == y0.toList) = true := by simp
  have hy1 : (y1.toList == y1.toList) = true := by simp
  obtain ⟨u, hu⟩ : ∃ u, Value.agg #[.string y0, .string y1] = u := ⟨_, rfl⟩
  rw [hu] at HRS
  have HU := Lib.hid hu
  clear hu
  have ec : ((c.size : Int) != 32) = false := by rw [hc1]; rfl
  clear hK hc1 h1 h2 h3 hno
  go_enter Tryd.func9, Tryd.ntmps9
  go_wp2_with fail
  refine (HC1.out _).mono ?_
  rintro e w3 ⟨rfl, hb⟩
  replace HO := HO.up hb
  clear hb
  go_wp2_with fail
  refine (HC2.out _).mono ?_
  rintro e w3 ⟨rfl, hb⟩
  replace HO := HO.up hb
  clear hb
  go_wp2_with fail
  refine (HC3.out _).mono ?_
  rintro e w3 ⟨rfl, hb⟩
  replace HO := HO.up hb
  clear hb
  go_wp2_with fail
  refine (HR.out _).mono ?_
  rintro e w3 ⟨rfl, hb⟩
  replace HO := HO.up hb
  clear hb
  go_wp2_with fail
  refine (HS.out _ HO.below).mono ?_
  rintro e w3 ⟨rfl, hb⟩
  replace HO := HO.up hb
  clear hb
  go_wp2_with fail
  refine (Numbers_any _).mono ?_
  rintro e w4 ⟨⟨A1, c1, A2, c2, rfl, hk⟩, hb⟩
  replace HO := HO.up hb
  clear hb
  unfold kV
  replace HO := HO.alloc' (.cells #[.slice A1 64 c1, .slice A2 8 c2] 37) rfl
  have HKK := Lib.hid (hk.up (below_alloc (Below.refl _ _) (.cells #[.slice A1 64 c1, .slice A2 8 c2] 37)))
  clear hk
  have cc0 := HO.cell 0 rfl
  go_wp2_with fail
  clear cc0
  generalize w4.heap.size = gk at *
  generalize World.alloc w4 _ = w5 at *
  refine (HAl.out _ HO.below).mono ?_
  rintro e w3 ⟨rfl, hb⟩
  replace HO := HO.up hb
  replace HKK := Lib.hid (HKK.out.up hb)
  clear hb
  have cc0 := HO.cell 0 rfl
  go_wp2_with fail
  clear cc0
  refine (HRS.out _ _ _ _ _ HKK.out).mono ?_
  rintro e w3 ⟨rfl, hb⟩
  replace HO := HO.up hb
  replace HKK := Lib.hid (HKK.out.up hb)
  clear hb
  go_wp2_with fail
  rw [← HU.out, eqGP, Result.andThen_ok, eqPE, hy0, hy1, Result.andThen_ok]
  go_wp2
  go_ret
  exact ⟨rfl, HO.below⟩
set_option maxHeartbeats 8000000 in
set_option maxRecDepth 100000 in
theorem ChainSteps_mn (root0 shared0 c0 : ByteArray) (W : World) (hr1 : (headB root0 40).size = 32) (hr2 : (headB shared0 40).size ≠ 32) (hc1 : (headB c0 40).size ≠ 32) (hK : KeysAt W) :
    Calls Tryd.prog 9 #[.string root0, .string shared0, .string c0] W fun e W' => e = .returned (.bool true) ∧ Below W.heap.size W W' := by
  have h1 := headB_size root0 40
  have h2 := headB_size shared0 40
  have h3 := headB_size c0 40
  have HC1 := Lib.hid (cut10 root0)
  have HC2 := Lib.hid (cut10 shared0)
  have HC3 := Lib.hid (cut10 c0)
  generalize headB root0 40 = root at *
  generalize headB shared0 40 = shared at *
  generalize headB c0 40 = c at *
  have HAl := Lib.hid (fun w1 (hg : Gr W w1) => alive10 w1 (hK.up hg))
  have HRR := Lib.hid (fun A1 c1 A2 c2 w1 (hk : KAt w1 A1 c1 A2 c2) => RRoot_any A1 c1 A2 c2 root shared w1 hk (by omega) (by omega))
  have HRS := Lib.hid (fun A1 c1 A2 c2 w1 (hk : KAt w1 A1 c1 A2 c2) => RStep_any A1 c1 A2 c2 c w1 hk (by omega))
  have hee : (⟨#[]⟩ : ByteArray) ++ ⟨#[]⟩ = ⟨#[]⟩ := rfl
  unfold kV at *
  have HO := Own.start W
  have er : ((root.size : Int) == 32) = true := by rw [hr1]; rfl
  have es : ((shared.size : Int) == 32) = false := by rw [beq_eq_false_iff_ne]; omega
  have hno : ¬ (root.size = 32 ∧ shared.size = 32) := fun h => hr2 h.2
  clear hr1 hr2
  have HR := Lib.hid (fun w1 => Root_no root shared w1 hno)
  clear HRR
  have HS := Lib.hid (fun w1 => Step_no c w1 hc1)
  have ec : ((c.size : Int) != 32) = true := by rw [bne_iff_ne]; omega
  clear HRS
  clear hK hc1 h1 h2 h3 hno
  go_enter Tryd.func9, Tryd.ntmps9
  go_wp2_with fail
  refine (HC1.out _).mono ?_
  rintro e w3 ⟨rfl, hb⟩
  replace HO := HO.up hb
  clear hb
  go_wp2_with fail
  refine (HC2.out _).mono ?_
  rintro e w3 ⟨rfl, hb⟩
  replace HO := HO.up hb
  clear hb
  go_wp2_with fail
  refine (HC3.out _).mono ?_
  rintro e w3 ⟨rfl, hb⟩
  replace HO := HO.up hb
  clear hb
  go_wp2_with fail
  refine (HR.out _).mono ?_
  rintro e w3 ⟨rfl, hb⟩
  replace HO := HO.up hb
  clear hb
  go_wp2_with fail
  refine (HS.out _).mono ?_
  rintro e w3 ⟨rfl, hb⟩
  replace HO := HO.up hb
  clear hb
  go_wp2_with fail
  refine (Numbers_any _).mono ?_
  rintro e w4 ⟨⟨A1, c1, A2, c2, rfl, hk⟩, hb⟩
  replace HO := HO.up hb
  clear hb
  unfold kV
  replace HO := HO.alloc' (.cells #[.slice A1 64 c1, .slice A2 8 c2] 37) rfl
  have HKK := Lib.hid (hk.up (below_alloc (Below.refl _ _) (.cells #[.slice A1 64 c1, .slice A2 8 c2] 37)))
  clear hk
  have cc0 := HO.cell 0 rfl
  go_wp2_with fail
  clear cc0
  generalize w4.heap.size = gk at *
  generalize World.alloc w4 _ = w5 at *
  refine (HAl.out _ HO.below).mono ?_
  rintro e w3 ⟨rfl, hb⟩
  replace HO := HO.up hb
  replace HKK := Lib.hid (HKK.out.up hb)
  clear hb
  go_wp2
  go_ret
  exact ⟨rfl, HO.below⟩
set_option maxHeartbeats 8000000 in
set_option maxRecDepth 100000 in
theorem ChainSteps_ny (root0 shared0 c0 : ByteArray) (W : World) (hr1 : (headB root0 40).size ≠ 32) (hc1 : (headB c0 40).size = 32) (hK : KeysAt W) :
    Calls Tryd.prog 9 #[.string root0, .string shared0, .string c0] W fun e W' => e = .returned (.bool true) ∧ Below W.heap.size W W' := by
  have h1 := headB_size root0 40
  have h2 := headB_size shared0 40
  have h3 := headB_size c0 40
  have HC1 := Lib.hid (cut10 root0)
  have HC2 := Lib.hid (cut10 shared0)
  have HC3 := Lib.hid (cut10 c0)
  generalize headB root0 40 = root at *
  generalize headB shared0 40 = shared at *
  generalize headB c0 40 = c at *
  have HAl := Lib.hid (fun w1 (hg : Gr W w1) => alive10 w1 (hK.up hg))
  have HRR := Lib.hid (fun A1 c1 A2 c2 w1 (hk : KAt w1 A1 c1 A2 c2) => RRoot_any A1 c1 A2 c2 root shared w1 hk (by omega) (by omega))
  have HRS := Lib.hid (fun A1 c1 A2 c2 w1 (hk : KAt w1 A1 c1 A2 c2) => RStep_any A1 c1 A2 c2 c w1 hk (by omega))
  have hee : (⟨#[]⟩ : ByteArray) ++ ⟨#[]⟩ = ⟨#[]⟩ := rfl
  unfold kV at *
  have HO := Own.start W
  have er : ((root.size : Int) == 32) = false := by rw [beq_eq_false_iff_ne]; omega
  have hno : ¬ (root.size = 32 ∧ shared.size = 32) := fun h => hr1 h.1
  clear hr1
  have HR := Lib.hid (fun w1 => Root_no root shared w1 hno)
  clear HRR
  have HS := Lib.hid (fun w1 (hg : Gr W w1) => Step_yes c w1 hc1 (hK.up hg))
  generalize stN c = y0 at *
  generalize stK c = y1 at *
  have hy0 : (y0.toList == y0.toList) = true := by simp
  have hy1 : (y1.toList == y1.toList) = true := by simp
  obtain ⟨u, hu⟩ : ∃ u, Value.agg #[.string y0, .string y1] = u := ⟨_, rfl⟩
  rw [hu] at HRS
  have HU := Lib.hid hu
  clear hu
  have ec : ((c.size : Int) != 32) = false := by rw [hc1]; rfl
  clear hK hc1 h1 h2 h3 hno
  go_enter Tryd.func9, Tryd.ntmps9
  go_wp2_with fail
  refine (HC1.out _).mono ?_
  rintro e w3 ⟨rfl, hb⟩
  replace HO := HO.up hb
  clear hb
  go_wp2_with fail
  refine (HC2.out _).mono ?_
  rintro e w3 ⟨rfl, hb⟩
  replace HO := HO.up hb
  clear hb
  go_wp2_with fail
  refine (HC3.out _).mono ?_
  rintro e w3 ⟨rfl, hb⟩
  replace HO := HO.up hb
  clear hb
  go_wp2_with fail
  refine (HR.out _).mono ?_
  rintro e w3 ⟨rfl, hb⟩
  replace HO := HO.up hb
  clear hb
  go_wp2_with fail
  refine (HS.out _ HO.below).mono ?_
  rintro e w3 ⟨rfl, hb⟩
  replace HO := HO.up hb
  clear hb
  go_wp2_with fail
  refine (Numbers_any _).mono ?_
  rintro e w4 ⟨⟨A1, c1, A2, c2, rfl, hk⟩, hb⟩
  replace HO := HO.up hb
  clear hb
  unfold kV
  replace HO := HO.alloc' (.cells #[.slice A1 64 c1, .slice A2 8 c2] 37) rfl
  have HKK := Lib.hid (hk.up (below_alloc (Below.refl _ _) (.cells #[.slice A1 64 c1, .slice A2 8 c2] 37)))
  clear hk
  have cc0 := HO.cell 0 rfl
  go_wp2_with fail
  clear cc0
  generalize w4.heap.size = gk at *
  generalize World.alloc w4 _ = w5 at *
  refine (HAl.out _ HO.below).mono ?_
  rintro e w3 ⟨rfl, hb⟩
  replace HO := HO.up hb
  replace HKK := Lib.hid (HKK.out.up hb)
  clear hb
  have cc0 := HO.cell 0 rfl
  go_wp2_with fail
  clear cc0
  refine (HRS.out _ _ _ _ _ HKK.out).mono ?_
  rintro e w3 ⟨rfl, hb⟩
  replace HO := HO.up hb
  replace HKK := Lib.hid (HKK.out.up hb)
  clear hb
  go_wp2_with fail
  rw [← HU.out, eqGP, Result.andThen_ok, eqPE, hy0, hy1, Result.andThen_ok]
  go_wp2
  go_ret
  exact ⟨rfl, HO.below⟩
set_option maxHeartbeats 8000000 in
set_option maxRecDepth 100000 in
theorem ChainSteps_nn (root0 shared0 c0 : ByteArray) (W : World) (hr1 : (headB root0 40).size ≠ 32) (hc1 : (headB c0 40).size ≠ 32) (hK : KeysAt W) :
    Calls Tryd.prog 9 #[.string root0, .string shared0, .string c0] W fun e W' => e = .returned (.bool true) ∧ Below W.heap.size W W' := by
  have h1 := headB_size root0 40
  have h2 := headB_size shared0 40
  have h3 := headB_size c0 40
  have HC1 := Lib.hid (cut10 root0)
  have HC2 := Lib.hid (cut10 shared0)
  have HC3 := Lib.hid (cut10 c0)
  generalize headB root0 40 = root at *
  generalize headB shared0 40 = shared at *
  generalize headB c0 40 = c at *
  have HAl := Lib.hid (fun w1 (hg : Gr W w1) => alive10 w1 (hK.up hg))
  have HRR := Lib.hid (fun A1 c1 A2 c2 w1 (hk : KAt w1 A1 c1 A2 c2) => RRoot_any A1 c1 A2 c2 root shared w1 hk (by omega) (by omega))
  have HRS := Lib.hid (fun A1 c1 A2 c2 w1 (hk : KAt w1 A1 c1 A2 c2) => RStep_any A1 c1 A2 c2 c w1 hk (by omega))
  have hee : (⟨#[]⟩ : ByteArray) ++ ⟨#[]⟩ = ⟨#[]⟩ := rfl
  unfold kV at *
  have HO := Own.start W
  have er : ((root.size : Int) == 32) = false := by rw [beq_eq_false_iff_ne]; omega
  have hno : ¬ (root.size = 32 ∧ shared.size = 32) := fun h => hr1 h.1
  clear hr1
  have HR := Lib.hid (fun w1 => Root_no root shared w1 hno)
  clear HRR
  have HS := Lib.hid (fun w1 => Step_no c w1 hc1)
  have ec : ((c.size : Int) != 32) = true := by rw [bne_iff_ne]; omega
  clear HRS
  clear hK hc1 h1 h2 h3 hno
  go_enter Tryd.func9, Tryd.ntmps9
  go_wp2_with fail
  refine (HC1.out _).mono ?_
  rintro e w3 ⟨rfl, hb⟩
  replace HO := HO.up hb
  clear hb
  go_wp2_with fail
  refine (HC2.out _).mono ?_
  rintro e w3 ⟨rfl, hb⟩
  replace HO := HO.up hb
  clear hb
  go_wp2_with fail
  refine (HC3.out _).mono ?_
  rintro e w3 ⟨rfl, hb⟩
  replace HO := HO.up hb
  clear hb
  go_wp2_with fail
  refine (HR.out _).mono ?_
  rintro e w3 ⟨rfl, hb⟩
  replace HO := HO.up hb
  clear hb
  go_wp2_with fail
  refine (HS.out _).mono ?_
  rintro e w3 ⟨rfl, hb⟩
  replace HO := HO.up hb
  clear hb
  go_wp2_with fail
  refine (Numbers_any _).mono ?_
  rintro e w4 ⟨⟨A1, c1, A2, c2, rfl, hk⟩, hb⟩
  replace HO := HO.up hb
  clear hb
  unfold kV
  replace HO := HO.alloc' (.cells #[.slice A1 64 c1, .slice A2 8 c2] 37) rfl
  have HKK := Lib.hid (hk.up (below_alloc (Below.refl _ _) (.cells #[.slice A1 64 c1, .slice A2 8 c2] 37)))
  clear hk
  have cc0 := HO.cell 0 rfl
  go_wp2_with fail
  clear cc0
  generalize w4.heap.size = gk at *
  generalize World.alloc w4 _ = w5 at *
  refine (HAl.out _ HO.below).mono ?_
  rintro e w3 ⟨rfl, hb⟩
  replace HO := HO.up hb
  replace HKK := Lib.hid (HKK.out.up hb)
  clear hb
  go_wp2
  go_ret
  exact ⟨rfl, HO.below⟩
theorem ChainSteps_walk (root0 shared0 c0 : ByteArray) (W : World) (hK : KeysAt W) :
    Calls Tryd.prog 9 #[.string root0, .string shared0, .string c0] W fun e W' => e = .returned (.bool true) ∧ Below W.heap.size W W' := by
  by_cases hr1 : (headB root0 40).size = 32
  · by_cases hr2 : (headB shared0 40).size = 32
    · by_cases hc1 : (headB c0 40).size = 32
      · exact ChainSteps_yy root0 shared0 c0 W hr1 hr2 hc1 hK
      · exact ChainSteps_yn root0 shared0 c0 W hr1 hr2 hc1 hK
    · by_cases hc1 : (headB c0 40).size = 32
      · exact ChainSteps_my root0 shared0 c0 W hr1 hr2 hc1 hK
      · exact ChainSteps_mn root0 shared0 c0 W hr1 hr2 hc1 hK
  · by_cases hc1 : (headB c0 40).size = 32
    · exact ChainSteps_ny root0 shared0 c0 W hr1 hc1 hK
    · exact ChainSteps_nn root0 shared0 c0 W hr1 hc1 hK
end Go.Proofs.YtpafocjmheemjaaDoor

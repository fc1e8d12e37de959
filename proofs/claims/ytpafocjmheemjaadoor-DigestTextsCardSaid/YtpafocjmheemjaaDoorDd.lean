import Derived.Test.YtpafocjmheemjaaDoorDc
import Derived.Test.YtpafocjmheemjaaDoorDb
import Derived.Test.YtpafocjmheemjaaDoorQRd
import Derived.Test.YtpafocjmheemjaaDoorDa
import Derived.Test.YtpafocjmheemjaaDoorRows
import Derived.Test.YtpafocjmheemjaaDoorTie
import Derived.Lib.LaidTab
import Derived.LaidLaws
import Derived.OpenShut
import Derived.Stop.Joined
import Derived.ProofKit
import Derived.Deep.Slices
import Derived.Deep.Strs
set_option linter.unusedSimpArgs false
/- ANY TEXT's SUM. -/
namespace Go.Proofs.YtpafocjmheemjaaDoor
open Go.RowKit Go.Proofs.YtpafocjmheemjaaDoorW.PrintWords
def lsN (n : Nat) (f : Nat → W32) : List Int := (List.range n).map (fun j => un (f j))
theorem lsN_len (n : Nat) (f : Nat → W32) : (lsN n f).length = n := by unfold lsN; simp
theorem lsN_rd (n : Nat) (f : Nat → W32) (j : Nat) (h : j < n) : rd (lsN n f) (j : Int) = un (f j) := by
  unfold rd lsN
  rw [Int.toNat_natCast, List.getD_eq_getElem?_getD, List.getElem?_map, List.getElem?_range h]; rfl
theorem RowN.C {w : World} {A : Option Addr} {n : Nat} {f : Nat → W32} (h : RowN w A n f) (hn : n ≤ 1000) : Kd.C (Kd.int .u32) w A n (lsN n f) := by
  refine ⟨lsN_len n f, by omega, fun h0 => ?_⟩
  obtain ⟨ad, rfl, hh⟩ := h h0
  refine ⟨ad, rfl, fun j p hj => ?_⟩
  have hl : j < n := by have := (List.getElem?_eq_some_iff.1 hj).1; rw [lsN_len] at this; exact this
  have hp : p = un (f j) := by
    unfold lsN at hj
    rw [List.getElem?_map, List.getElem?_range hl] at hj
    exact (Option.some.inj hj).symm
  subst hp
  refine ⟨[.int .u32 (un (f j))], rfl, rfl, fun i u hu => ?_⟩
  rcases i with _ | i
  · obtain rfl : Value.int .u32 (un (f j)) = u := by simpa using hu
    have := hh j hl
    rw [show j * (Kd.int .u32).sz + 0 = j by show j * 1 + 0 = j; omega]
    exact this
  · simp at hu
theorem equal_l0 (n : Nat) (f g : Nat → W32) (hn : n ≤ 1000) : ∀ d i, i + d = n → ∀ k, d < k → ∀ b : Bool, (b = true ↔ ∀ j, i ≤ j → j < n → f j = g j) → PDigestSums.slices_Equal_uint32_uint32.l0 k (lsN n f) (lsN n g) (n : Int) (i : Int) = some b := by
  intro d
  induction d with
  | zero =>
    intro i hi k hk b hb
    cases k with
    | zero => omega
    | succ k =>
      unfold PDigestSums.slices_Equal_uint32_uint32.l0
      rw [if_neg (by omega)]
      exact congrArg some (hb.2 (fun j h1 h2 => by omega)).symm
  | succ d ih =>
    intro i hi k hk b hb
    cases k with
    | zero => omega
    | succ k =>
      unfold PDigestSums.slices_Equal_uint32_uint32.l0
      rw [if_pos (by omega), if_pos (by omega), lsN_len, if_pos (by omega), lsN_len, if_pos (by omega), lsN_rd n f i (by omega), lsN_rd n g i (by omega)]
      have e := un_inj (f i) (g i)
      by_cases h : f i = g i
      · rw [if_pos (by rw [h]), show wrap64 ((i : Int) + 1) = ((i + 1 : Nat) : Int) by unfold wrap64; omega]
        refine ih (i + 1) (by omega) k (by omega) b (hb.trans ⟨fun hh j h1 h2 => hh j (by omega) h2, fun hh j h1 h2 => ?_⟩)
        rcases Nat.lt_or_ge i j with h3 | h3
        · exact hh j h3 h2
        · obtain rfl : i = j := by omega
          exact h
      · have hu : ¬ un (f i) = un (g i) := fun hh => by
          rw [hh] at e
          simp [h] at e
        rw [if_neg hu]
        refine congrArg some ?_
        cases b
        · rfl
        · exact absurd (hb.1 rfl i (Nat.le_refl _) (by omega)) h
theorem equal_f (n n' : Nat) (f g : Nat → W32) (hn : n ≤ 1000) (b : Bool) (hb : b = true ↔ (n = n' ∧ ∀ j, j < n → f j = g j)) : PDigestSums.slices_Equal_uint32_uint32.f 2000 (lsN n f) (lsN n' g) = some b := by
  unfold PDigestSums.slices_Equal_uint32_uint32.f
  rw [lsN_len, lsN_len]
  by_cases h : n = n'
  · subst h
    rw [if_pos rfl]
    exact equal_l0 n f g hn n 0 (by omega) 2000 (by omega) b (hb.trans ⟨fun hh j _ hj => hh.2 j hj, fun hh => ⟨rfl, fun j hj => hh j (Nat.zero_le _) hj⟩⟩)
  · rw [if_neg (by omega)]
    refine congrArg some ?_
    cases b
    · rfl
    · exact absurd (hb.1 rfl).1 h
theorem like_f (n n' : Nat) (f g : Nat → W32) (r r' : ByteArray) (m m' : Nat) (hn : n ≤ 1000) : PDigestSums.digest_Like.f 2000 (lsN n f) r (m : Int) (lsN n' g) r' (m' : Int) = some (sameB n n' f g r r' m m') := by
  have hs : sameB n n' f g r r' m m' = true ↔ SameH n n' f g r r' m m' := by unfold sameB; exact decide_eq_true_iff
  generalize sameB n n' f g r r' m m' = s at *
  unfold SameH at hs
  obtain ⟨b, hb⟩ : ∃ b : Bool, (b = true ↔ (n = n' ∧ ∀ j, j < n → f j = g j)) := by
    by_cases h : n = n' ∧ ∀ j, j < n → f j = g j
    · exact ⟨true, iff_of_true rfl h⟩
    · exact ⟨false, iff_of_false (fun x => by cases x) h⟩
  unfold PDigestSums.digest_Like.f
  rw [equal_f n n' f g hn b hb, Option.bind_some]
  have e := str_beq r r'
  have key : ∀ q : Bool, (q = true ↔ s = true) → some q = some s := fun q h => by
    cases q <;> cases s <;> simp at h ⊢
  cases b
  · rw [if_neg (by simp)]
    refine key _ ⟨fun h => by simp at h, fun h => ?_⟩
    have := hs.1 h
    exact hb.2 ⟨this.1, this.2.2.2⟩
  · have hb := hb.1 rfl
    rw [if_pos rfl]
    by_cases h2 : r = r'
    · subst h2
      rw [if_pos rfl]
      refine key _ ?_
      rw [hs, beq_iff_eq]
      exact ⟨fun h => ⟨hb.1, rfl, by omega, hb.2⟩, fun h => by have := h.2.2.1; omega⟩
    · rw [if_neg (fun hh => h2 (by rw [hh] at e; simp at e; exact e))]
      refine key _ ⟨fun h => by simp at h, fun h => absurd (hs.1 h).2.1 h2⟩
attribute [local irreducible] Calls mixF
theorem Like_any (A A' : Option Addr) (n n' c c' : Nat) (f f' : Nat → W32) (r r' : ByteArray) (m m' : Nat) (w : World) (hn : n ≤ 1000) (hn' : n' ≤ 1000) (hc : n ≤ c) (hc' : n' ≤ c') (hR : RowN w A n f) (hR' : RowN w A' n' f') :
    Calls Tryd.prog 30 #[hashV A n c r m, hashV A' n' c' r' m'] w fun e w' => e = .returned (.bool (sameB n n' f f' r r' m m')) ∧ Below w.heap.size w w' := by
  have := PDigestSums.digest_Like.calls 2000 A c (lsN n f) r (m : Int) A' c' (lsN n' f') r' (m' : Int) (sameB n n' f f' r r' m m') w (by rw [lsN_len]; exact hR.C hn) (by rw [lsN_len]; exact hc) (by rw [lsN_len]; exact hR'.C hn') (by rw [lsN_len]; exact hc') (like_f n n' f f' r r' m m' hn)
  rw [lsN_len, lsN_len] at this
  exact this
theorem sameB_self (n : Nat) (f : Nat → W32) (r : ByteArray) (m : Nat) : sameB n n f f r r m m = true := decide_eq_true ⟨rfl, rfl, rfl, fun _ _ => rfl⟩
set_option maxHeartbeats 8000000 in
set_option maxRecDepth 100000 in
theorem DigestTexts_walk (s0 : ByteArray) (A : Option Addr) (n0 c : Nat) (rest : ByteArray) (m : Nat) (f : Nat → W32) (A' : Option Addr) (n0' c' : Nat) (rest' : ByteArray) (m' : Nat) (f' : Nat → W32) (W : World) (hn : n0 ≤ c) (hR : RowN W A n0 f) (hn' : n0' ≤ c') (hR' : RowN W A' n0' f') (hK : KeysAt W) :
    Calls Tryd.prog 6 #[.string s0, hashV A n0 c rest m, hashV A' n0' c' rest' m'] W fun e W' => e = .returned (.bool true) ∧ Below W.heap.size W W' := by
  have h300 := headB_size s0 300
  have HK := Lib.hid (fun w1 (hg : Gr W w1) => hK.up hg)
  have HRN := hR.less (Nat.min_le_left n0 9)
  have HRN' := hR'.less (Nat.min_le_left n0' 9)
  have HF := Lib.hid (few03 A n0 c rest m · hn)
  have HF' := Lib.hid (few03 A' n0' c' rest' m' · hn')
  have HC := Lib.hid (cut03 s0)
  generalize headB s0 300 = s at *
  generalize headB rest 66 = r at *
  generalize headB rest' 66 = r' at *
  have hc : min n0 9 ≤ c := by omega
  have hc' : min n0' 9 ≤ c' := by omega
  have h9 : min n0 9 ≤ 1000 := by omega
  have h9' : min n0' 9 ≤ 1000 := by omega
  generalize min n0 9 = n at *
  generalize min n0' 9 = n' at *
  have hs : s.size ≤ 100000 := by omega
  have HS1 := Lib.hid (fun w1 (hg : Gr W w1) => Same_any A A' n n' c c' f f' r r' m m' w1 h9 (HRN.up hg) (HRN'.up hg))
  have HL1 := Lib.hid (fun w1 (hg : Gr W w1) => Like_any A A' n n' c c' f f' r r' m m' w1 h9 h9' hc hc' (HRN.up hg) (HRN'.up hg))
  have HL2 := fun w1 (hg : Gr W w1) => Like_any A A n n c c f f r r m m w1 h9 h9 hc hc (HRN.up hg) (HRN.up hg)
  rw [sameB_self] at HL2
  replace HL2 := Lib.hid HL2
  have HO1 := Lib.hid (fun w1 (hg : Gr W w1) => Of_any s w1 (hK.up hg) hs)
  have HO2 := Lib.hid (fun A1 c1 A2 c2 w1 (hk : KAt w1 A1 c1 A2 c2) => ROf_any A1 c1 A2 c2 s w1 hk hs)
  have HN2 := Lib.hid (fun A1 c1 A2 c2 w1 => RNew_any A1 c1 A2 c2 w1)
  have HS2 := fun (A1 A2 : Option Addr) (c2 : Nat) w1 (h1 : Row8 w1 A1 ivF) (h2 : Row8 w1 A2 ivF) => Same_any A1 A2 8 8 8 c2 ivF ivF ⟨#[]⟩ ⟨#[]⟩ 0 0 w1 (by decide) h1.toN h2.toN
  rw [sameB_self] at HS2
  replace HS2 := Lib.hid HS2
  clear hK hR hR' HRN HRN'
  generalize shaF s = x at *
  generalize sameB n n' f f' r r' m m' = b at *
  have hbb : (b == b) = true := by simp
  have hxx : (x.toList == x.toList) = true := by simp
  unfold kV hashV at *
  have HO := (((Own.start W).alloc' (.cells #[.slice A n0 c, .string rest, .int .u64 (m : Int)] 25) rfl).alloc' (.cells #[.slice A' n0' c', .string rest', .int .u64 (m' : Int)] 25) (by simp : _ = W.heap.size + 1))
  go_enter Tryd.func6, Tryd.ntmps6
  go_wp2_with fail
  refine bstart (fun _ => W.heap.size) (n := 9) (ds := [7, 8]) #[false, false, false, false, false, false, false, false, false] (by kernel_rfl) rfl rfl HO.below.size (fun HBS => ?_)
  refine bseq (m := 2) (.inl rfl) [(0, true, some 8), (1, false, some 9), (2, false, some 10), (3, false, some 11), (4, false, some 12), (5, false, some 13), (6, true, some 0)] #[true, true, true, true, true, true, true, false, false] HBS (by kernel_rfl) rfl (fun _ _ _ _ _ h => h) ?_
  (refine sP (v := ?_) (a' := ?_) rfl rfl (by rfl) ?_ ?_ ?_; rotate_left 2; (· intro w'; go_simp; with_reducible rfl); (· simp only [Act.put, List.setIfInBounds_toArray, List.set_cons_zero, List.set_cons_succ, kw64, kw32]; rfl))
  (refine sC (v := ?_) (a' := ?_) Tryd.func16 rfl rfl (by rfl) rfl (by kernel_rfl) rfl (by rfl) ?_ ?_ ?_; rotate_left 2; (· intro w1 hg; exact HC.out w1); (· simp only [Act.put, List.setIfInBounds_toArray, List.set_cons_zero, List.set_cons_succ, kw64, kw32]; rfl))
  (refine sL (v := ?_) (a' := ?_) rfl rfl (by rfl) ?_ ?_ ?_; rotate_left 2; (· intro w1 hg; (refine Eq.trans (run_load_row 25 (.tmp 4) rfl W.heap.size (by rfl) _ #[.slice A n0 c, .string rest, .int .u64 (m : Int)] _ _ ((HO.up hg).blk 1 rfl) Tryd.underlying25 rfl (by kernel_rfl)) ?_; with_reducible rfl)); (· simp only [Act.put, List.setIfInBounds_toArray, List.set_cons_zero, List.set_cons_succ, kw64, kw32]; rfl))
  (first
    | (refine sC (v := ?_) (a' := ?_) Tryd.func15 rfl rfl (by rfl) rfl (by kernel_rfl) rfl (by rfl) ?_ ?_ ?_; rotate_left 2; (· intro w1 hg; exact HF.out w1); (· simp only [Act.put, List.setIfInBounds_toArray, List.set_cons_zero, List.set_cons_succ, kw64, kw32]; rfl))
    | (refine sC (v := ?_) (a' := ?_) Tryd.func15 rfl rfl (by rfl) rfl (by kernel_rfl) rfl (by rfl) ?_ ?_ ?_; rotate_left 2; (· intro w1 hg; exact HF'.out w1); (· simp only [Act.put, List.setIfInBounds_toArray, List.set_cons_zero, List.set_cons_succ, kw64, kw32]; rfl)))
  (refine sL (v := ?_) (a' := ?_) rfl rfl (by rfl) ?_ ?_ ?_; rotate_left 2; (· intro w1 hg; (refine Eq.trans (run_load_row 25 (.tmp 5) rfl (W.heap.size + 1) (by rfl) _ #[.slice A' n0' c', .string rest', .int .u64 (m' : Int)] _ _ ((HO.up hg).blk 0 rfl) Tryd.underlying25 rfl (by kernel_rfl)) ?_; with_reducible rfl)); (· simp only [Act.put, List.setIfInBounds_toArray, List.set_cons_zero, List.set_cons_succ, kw64, kw32]; rfl))
  (first
    | (refine sC (v := ?_) (a' := ?_) Tryd.func15 rfl rfl (by rfl) rfl (by kernel_rfl) rfl (by rfl) ?_ ?_ ?_; rotate_left 2; (· intro w1 hg; exact HF.out w1); (· simp only [Act.put, List.setIfInBounds_toArray, List.set_cons_zero, List.set_cons_succ, kw64, kw32]; rfl))
    | (refine sC (v := ?_) (a' := ?_) Tryd.func15 rfl rfl (by rfl) rfl (by kernel_rfl) rfl (by rfl) ?_ ?_ ?_; rotate_left 2; (· intro w1 hg; exact HF'.out w1); (· simp only [Act.put, List.setIfInBounds_toArray, List.set_cons_zero, List.set_cons_succ, kw64, kw32]; rfl)))
  (refine sP (v := ?_) (a' := ?_) rfl rfl (by rfl) ?_ ?_ ?_; rotate_left 2; (· intro w'; go_simp; with_reducible rfl); (· simp only [Act.put, List.setIfInBounds_toArray, List.set_cons_zero, List.set_cons_succ, kw64, kw32]; rfl))
  refine bone (i := 7) (N := none) #[true, true, true, true, true, true, true, true, false] rfl rfl (by kernel_rfl) HBS (fun w1 hg K hK => ?_)
  rw [if_pos (by rfl)]
  replace HO := HO.up hg
  have c1 := HO.cell 1 rfl
  have f1 := HO.frozen 1 rfl
  go_simp
  refine hK _ _ (in_ds (by decide) (((bel_set (by omega)).trans (bel_set (by omega))).trans (bel_set (by omega)))) (fun HBS => ?_)
  replace HO := HO.set' 1 rfl 0 (.slice A n c) (L' := [(W.heap.size + 1, .cells #[.slice A' n0' c', .string rest', .int .u64 (m' : Int)] 25 (0, 0)), (W.heap.size, .cells #[(.slice A n c), (.string rest), (.int .u64 (m : Int))] 25 (0, 0))]) rfl
  replace HO := HO.set' 1 rfl 1 (.string r) (L' := [(W.heap.size + 1, .cells #[.slice A' n0' c', .string rest', .int .u64 (m' : Int)] 25 (0, 0)), (W.heap.size, .cells #[(.slice A n c), (.string r), (.int .u64 (m : Int))] 25 (0, 0))]) rfl
  replace HO := HO.set' 1 rfl 2 (.int .u64 (m : Int)) (L' := [(W.heap.size + 1, .cells #[.slice A' n0' c', .string rest', .int .u64 (m' : Int)] 25 (0, 0)), (W.heap.size, .cells #[(.slice A n c), (.string r), (.int .u64 (m : Int))] 25 (0, 0))]) rfl
  clear c1 f1 hg K hK
  revert HO HBS
  generalize World.setCell (World.setCell (World.setCell _ _ _) _ _) _ _ = wb
  intro HBS HO
  refine bone (i := 8) (N := none) #[true, true, true, true, true, true, true, true, true] rfl rfl (by kernel_rfl) HBS (fun w1 hg K hK => ?_)
  rw [if_pos (by rfl)]
  replace HO := HO.up hg
  have c1 := HO.cell 0 rfl
  have f1 := HO.frozen 0 rfl
  go_simp
  refine hK _ _ (in_ds (by decide) (((bel_set (by omega)).trans (bel_set (by omega))).trans (bel_set (by omega)))) (fun HBS => ?_)
  replace HO := HO.set' 0 rfl 0 (.slice A' n' c') (L' := [(W.heap.size + 1, .cells #[(.slice A' n' c'), (.string rest'), (.int .u64 (m' : Int))] 25 (0, 0)), (W.heap.size, .cells #[.slice A n c, .string r, .int .u64 (m : Int)] 25 (0, 0))]) rfl
  replace HO := HO.set' 0 rfl 1 (.string r') (L' := [(W.heap.size + 1, .cells #[(.slice A' n' c'), (.string r'), (.int .u64 (m' : Int))] 25 (0, 0)), (W.heap.size, .cells #[.slice A n c, .string r, .int .u64 (m : Int)] 25 (0, 0))]) rfl
  replace HO := HO.set' 0 rfl 2 (.int .u64 (m' : Int)) (L' := [(W.heap.size + 1, .cells #[(.slice A' n' c'), (.string r'), (.int .u64 (m' : Int))] 25 (0, 0)), (W.heap.size, .cells #[.slice A n c, .string r, .int .u64 (m : Int)] 25 (0, 0))]) rfl
  clear c1 f1 hg K hK
  revert HO HBS
  generalize World.setCell (World.setCell (World.setCell _ _ _) _ _) _ _ = wb
  intro HBS HO
  refine bdone (by kernel_rfl) (fun w1 hg => ?_)
  replace HO := HO.up hg
  clear hg HF HF' HC
  go_wp2_with fail
  refine (Numbers_any _).mono ?_
  rintro e w2 ⟨⟨A1, c1, A2, c2, rfl, hk⟩, hb⟩
  replace HO := HO.up hb
  clear hb
  replace HO := HO.alloc' (.cells #[.slice A1 64 c1, .slice A2 8 c2] 37) rfl
  replace hk := hk.up (below_alloc (Below.refl _ _) (.cells #[.slice A1 64 c1, .slice A2 8 c2] 37))
  have HKK := Lib.hid hk
  clear hk
  unfold kV
  go_wp2_with fail
  generalize w2.heap.size = gk at *
  generalize World.alloc w2 _ = w3 at *
  refine bstart (fun w => w.heap.size) (n := 30) (ds := []) #[false, false, false, false, false, false, false, false, false, false, false, false, false, false, false, false, false, false, false, false, false, false, false, false, false, false, false, false, false, false] (by kernel_rfl) rfl rfl (Nat.le_refl _) (fun HBS => ?_)
  refine bseq (m := 19) (.inl rfl) [(0, true, some 15), (1, true, some 16), (2, true, some 17), (5, true, some 20), (3, true, some 18), (4, true, some 19), (6, true, some 21), (7, true, some 22), (8, true, some 23), (9, true, some 24), (11, true, some 26)] #[true, true, true, true, true, true, true, true, true, true, false, true, false, false, false, false, false, false, false, false, false, false, false, false, false, false, false, false, false, false] HBS (by kernel_rfl) rfl (fun _ _ _ _ _ h => h) ?_
  (refine sD (v := ?_) (a' := ?_) Tryd.func21 rfl rfl (by rfl) rfl (by kernel_rfl) rfl (by rfl) ?_ ?_ ?_; rotate_left 2; (· intro w1 hg; exact alive03 w1 (HK.out w1 (HO.up hg).below)); (· simp only [Act.put, List.setIfInBounds_toArray, List.set_cons_zero, List.set_cons_succ, kw64, kw32]; rfl))
  (refine sP (v := ?_) (a' := ?_) rfl rfl (by rfl) ?_ ?_ ?_; rotate_left 2; (· intro w'; go_simp; with_reducible rfl); (· simp only [Act.put, List.setIfInBounds_toArray, List.set_cons_zero, List.set_cons_succ, kw64, kw32]; rfl))
  (refine sP (v := ?_) (a' := ?_) rfl rfl (by rfl) ?_ ?_ ?_; rotate_left 2; (· intro w'; go_simp; with_reducible rfl); (· simp only [Act.put, List.setIfInBounds_toArray, List.set_cons_zero, List.set_cons_succ, kw64, kw32]; rfl))
  (refine sP (v := ?_) (a' := ?_) rfl rfl (by rfl) ?_ ?_ ?_; rotate_left 2; (· intro w'; go_simp; with_reducible rfl); (· simp only [Act.put, List.setIfInBounds_toArray, List.set_cons_zero, List.set_cons_succ, kw64, kw32]; rfl))
  (refine sD (v := ?_) (a' := ?_) Tryd.func27 rfl rfl (by rfl) rfl (by kernel_rfl) rfl (by rfl) ?_ ?_ ?_; rotate_left 2; (· intro w1 hg; exact HO1.out w1 (HO.up hg).below); (· simp only [Act.put, List.setIfInBounds_toArray, List.set_cons_zero, List.set_cons_succ, kw64, kw32]; rfl))
  (refine sB (v := ?_) (a' := ?_) rfl rfl (by rfl) ?_ ?_ ?_; rotate_left 2; (· intro w1 hg; (refine Eq.trans (run_load_row 37 (.tmp 7) rfl gk (by rfl) _ #[.slice A1 64 c1, .slice A2 8 c2] _ _ ((HO.up hg).blk 0 rfl) Tryd.underlying37 rfl (by kernel_rfl)) ?_; with_reducible rfl)); (· simp only [Act.put, List.setIfInBounds_toArray, List.set_cons_zero, List.set_cons_succ, kw64, kw32]; rfl))
  (refine sD (v := ?_) (a' := ?_) Tryd.func28 rfl rfl (by rfl) rfl (by kernel_rfl) rfl (by rfl) ?_ ?_ ?_; rotate_left 2; (· intro w1 hg; exact HO2.out _ _ _ _ w1 (HKK.out.up hg)); (· simp only [Act.put, List.setIfInBounds_toArray, List.set_cons_zero, List.set_cons_succ, kw64, kw32]; rfl))
  (refine sP (v := ?_) (a' := ?_) rfl rfl (by rfl) ?_ ?_ ?_; rotate_left 2; (· intro w'; go_simp; with_reducible rfl); (· simp only [Act.put, List.setIfInBounds_toArray, List.set_cons_zero, List.set_cons_succ, kw64, kw32]; rfl))
  (refine sP (v := ?_) (a' := ?_) rfl rfl (by rfl) ?_ ?_ ?_; rotate_left 2; (· intro w'; go_simp; with_reducible rfl); (· simp only [Act.put, List.setIfInBounds_toArray, List.set_cons_zero, List.set_cons_succ, kw64, kw32]; rfl))
  (refine sP (v := ?_) (a' := ?_) rfl rfl (by rfl) ?_ ?_ ?_; rotate_left 2; (· intro w'; go_simp; with_reducible rfl); (· simp only [Act.put, List.setIfInBounds_toArray, List.set_cons_zero, List.set_cons_succ, kw64, kw32]; rfl))
  (refine sB (v := ?_) (a' := ?_) rfl rfl (by rfl) ?_ ?_ ?_; rotate_left 2; (· intro w1 hg; (refine Eq.trans (run_load_row 37 (.tmp 7) rfl gk (by rfl) _ #[.slice A1 64 c1, .slice A2 8 c2] _ _ ((HO.up hg).blk 0 rfl) Tryd.underlying37 rfl (by kernel_rfl)) ?_; with_reducible rfl)); (· simp only [Act.put, List.setIfInBounds_toArray, List.set_cons_zero, List.set_cons_succ, kw64, kw32]; rfl))
  refine bone (i := 10) (N := (some 25)) #[true, true, true, true, true, true, true, true, true, true, true, true, false, false, false, false, false, false, false, false, false, false, false, false, false, false, false, false, false, false] rfl rfl (by kernel_rfl) HBS (fun w1 hg K hK => ?_)
  rw [if_pos (by rfl)]
  replace HO := HO.up hg
  refine wp_call Tryd.func26 rfl (by kernel_rfl) rfl (by rfl) ((New_any _).mono ?_)
  rintro e w4 ⟨⟨g, _, rfl, hR⟩, hb⟩
  refine ⟨_, rfl, hK _ _ (not_ds (by decide) hb) (fun HBS => ?_)⟩
  replace HO := HO.up hb
  have HKK := Lib.hid ((HKK.out.up hg).up hb)
  refine at_dst (some 25) rfl ?_
  simp only [Act.put, List.setIfInBounds_toArray, List.set_cons_zero, List.set_cons_succ]
  refine bseq (m := 0) (.inl rfl) [(12, false, some 27), (13, false, some 28), (14, true, some 29), (15, true, some 30), (16, false, some 31), (17, false, some 32), (18, false, some 33), (19, false, some 34), (20, false, some 35), (21, false, some 36), (22, true, some 37), (23, true, some 38), (24, true, some 39), (25, false, some 40), (26, false, some 41), (27, false, some 42), (28, true, some 43), (29, true, some 6)] #[true, true, true, true, true, true, true, true, true, true, true, true, true, true, true, true, true, true, true, true, true, true, true, true, true, true, true, true, true, true] HBS (by kernel_rfl) rfl (fun _ _ _ _ _ h => h) ?_
  (refine sC (v := ?_) (a' := ?_) Tryd.func29 rfl rfl (by rfl) rfl (by kernel_rfl) rfl (by rfl) ?_ ?_ ?_; rotate_left 2; (· intro w1 hg; exact HN2.out _ _ _ _ w1); (· simp only [Act.put, List.setIfInBounds_toArray, List.set_cons_zero, List.set_cons_succ, kw64, kw32]; rfl))
  (refine sC (v := ?_) (a' := ?_) Tryd.func22 rfl rfl (by rfl) rfl (by kernel_rfl) rfl (by rfl) ?_ ?_ ?_; rotate_left 2; (· intro w1 hg; exact HS2.out _ _ _ w1 (hR.up hg) (HKK.out.up hg).iv); (· simp only [Act.put, List.setIfInBounds_toArray, List.set_cons_zero, List.set_cons_succ, kw64, kw32]; rfl))
  (refine sP (v := ?_) (a' := ?_) rfl rfl (by rfl) ?_ ?_ ?_; rotate_left 2; (· intro w'; go_simp; with_reducible rfl); (· simp only [Act.put, List.setIfInBounds_toArray, List.set_cons_zero, List.set_cons_succ, kw64, kw32]; rfl))
  (refine sP (v := ?_) (a' := ?_) rfl rfl (by rfl) ?_ ?_ ?_; rotate_left 2; (· intro w'; go_simp; with_reducible rfl); (· simp only [Act.put, List.setIfInBounds_toArray, List.set_cons_zero, List.set_cons_succ, kw64, kw32]; rfl))
  (refine sL (v := ?_) (a' := ?_) rfl rfl (by rfl) ?_ ?_ ?_; rotate_left 2; (· intro w1 hg; (refine Eq.trans (run_load_row 25 (.tmp 4) rfl W.heap.size (by rfl) _ #[.slice A n c, .string r, .int .u64 (m : Int)] _ _ ((HO.up hg).blk 2 rfl) Tryd.underlying25 rfl (by kernel_rfl)) ?_; with_reducible rfl)); (· simp only [Act.put, List.setIfInBounds_toArray, List.set_cons_zero, List.set_cons_succ, kw64, kw32]; rfl))
  (refine sL (v := ?_) (a' := ?_) rfl rfl (by rfl) ?_ ?_ ?_; rotate_left 2; (· intro w1 hg; (refine Eq.trans (run_load_row 25 (.tmp 5) rfl (W.heap.size + 1) (by rfl) _ #[.slice A' n' c', .string r', .int .u64 (m' : Int)] _ _ ((HO.up hg).blk 1 rfl) Tryd.underlying25 rfl (by kernel_rfl)) ?_; with_reducible rfl)); (· simp only [Act.put, List.setIfInBounds_toArray, List.set_cons_zero, List.set_cons_succ, kw64, kw32]; rfl))
  (refine sC (v := ?_) (a' := ?_) Tryd.func30 rfl rfl (by rfl) rfl (by kernel_rfl) rfl (by rfl) ?_ ?_ ?_; rotate_left 2; (· intro w1 hg; exact HL1.out w1 (HO.up hg).below); (· simp only [Act.put, List.setIfInBounds_toArray, List.set_cons_zero, List.set_cons_succ, kw64, kw32]; rfl))
  (refine sL (v := ?_) (a' := ?_) rfl rfl (by rfl) ?_ ?_ ?_; rotate_left 2; (· intro w1 hg; (refine Eq.trans (run_load_row 25 (.tmp 4) rfl W.heap.size (by rfl) _ #[.slice A n c, .string r, .int .u64 (m : Int)] _ _ ((HO.up hg).blk 2 rfl) Tryd.underlying25 rfl (by kernel_rfl)) ?_; with_reducible rfl)); (· simp only [Act.put, List.setIfInBounds_toArray, List.set_cons_zero, List.set_cons_succ, kw64, kw32]; rfl))
  (refine sL (v := ?_) (a' := ?_) rfl rfl (by rfl) ?_ ?_ ?_; rotate_left 2; (· intro w1 hg; (refine Eq.trans (run_load_row 25 (.tmp 5) rfl (W.heap.size + 1) (by rfl) _ #[.slice A' n' c', .string r', .int .u64 (m' : Int)] _ _ ((HO.up hg).blk 1 rfl) Tryd.underlying25 rfl (by kernel_rfl)) ?_; with_reducible rfl)); (· simp only [Act.put, List.setIfInBounds_toArray, List.set_cons_zero, List.set_cons_succ, kw64, kw32]; rfl))
  (refine sC (v := ?_) (a' := ?_) Tryd.func22 rfl rfl (by rfl) rfl (by kernel_rfl) rfl (by rfl) ?_ ?_ ?_; rotate_left 2; (· intro w1 hg; exact HS1.out w1 (HO.up hg).below); (· simp only [Act.put, List.setIfInBounds_toArray, List.set_cons_zero, List.set_cons_succ, kw64, kw32]; rfl))
  (refine sP (v := ?_) (a' := ?_) rfl rfl (by rfl) ?_ ?_ ?_; rotate_left 2; (· intro w'; go_simp; with_reducible rfl); (· simp only [Act.put, List.setIfInBounds_toArray, List.set_cons_zero, List.set_cons_succ, kw64, kw32]; rfl))
  (refine sP (v := ?_) (a' := ?_) rfl rfl (by rfl) ?_ ?_ ?_; rotate_left 2; (· intro w'; go_simp; with_reducible rfl); (· simp only [Act.put, List.setIfInBounds_toArray, List.set_cons_zero, List.set_cons_succ, kw64, kw32]; rfl))
  (refine sP (v := ?_) (a' := ?_) rfl rfl (by rfl) ?_ ?_ ?_; rotate_left 2; (· intro w'; go_simp; with_reducible rfl); (· simp only [Act.put, List.setIfInBounds_toArray, List.set_cons_zero, List.set_cons_succ, kw64, kw32]; rfl))
  (refine sL (v := ?_) (a' := ?_) rfl rfl (by rfl) ?_ ?_ ?_; rotate_left 2; (· intro w1 hg; (refine Eq.trans (run_load_row 25 (.tmp 4) rfl W.heap.size (by rfl) _ #[.slice A n c, .string r, .int .u64 (m : Int)] _ _ ((HO.up hg).blk 2 rfl) Tryd.underlying25 rfl (by kernel_rfl)) ?_; with_reducible rfl)); (· simp only [Act.put, List.setIfInBounds_toArray, List.set_cons_zero, List.set_cons_succ, kw64, kw32]; rfl))
  (refine sL (v := ?_) (a' := ?_) rfl rfl (by rfl) ?_ ?_ ?_; rotate_left 2; (· intro w1 hg; (refine Eq.trans (run_load_row 25 (.tmp 4) rfl W.heap.size (by rfl) _ #[.slice A n c, .string r, .int .u64 (m : Int)] _ _ ((HO.up hg).blk 2 rfl) Tryd.underlying25 rfl (by kernel_rfl)) ?_; with_reducible rfl)); (· simp only [Act.put, List.setIfInBounds_toArray, List.set_cons_zero, List.set_cons_succ, kw64, kw32]; rfl))
  (refine sC (v := ?_) (a' := ?_) Tryd.func30 rfl rfl (by rfl) rfl (by kernel_rfl) rfl (by rfl) ?_ ?_ ?_; rotate_left 2; (· intro w1 hg; exact HL2.out w1 (HO.up hg).below); (· simp only [Act.put, List.setIfInBounds_toArray, List.set_cons_zero, List.set_cons_succ, kw64, kw32]; rfl))
  (refine sP (v := ?_) (a' := ?_) rfl rfl (by rfl) ?_ ?_ ?_; rotate_left 2; (· intro w'; go_simp; with_reducible rfl); (· simp only [Act.put, List.setIfInBounds_toArray, List.set_cons_zero, List.set_cons_succ, kw64, kw32]; rfl))
  (refine sP (v := ?_) (a' := ?_) rfl rfl (by rfl) ?_ ?_ ?_; rotate_left 2; (· intro w'; go_simp; with_reducible rfl); (· simp only [Act.put, List.setIfInBounds_toArray, List.set_cons_zero, List.set_cons_succ, kw64, kw32]; rfl))
  refine bdone (by kernel_rfl) (fun w1 hg => ?_)
  replace HO := HO.up hg
  clear hg
  go_wp2
  go_ret
  exact ⟨rfl, HO.below⟩
end Go.Proofs.YtpafocjmheemjaaDoor

set_option linter.unusedSimpArgs false
/- ANY SUM ON ITS WAY. -/
namespace Go.Proofs.YtpafocjmheemjaaDoor
open Go.RowKit Go.Proofs.YtpafocjmheemjaaDoorW.PrintWords
attribute [local irreducible] Calls mixF
set_option maxHeartbeats 1000000 in
theorem RRight_any (A : Option Addr) (n c : Nat) (rest : ByteArray) (m : Nat) (w : World) :
    Calls Tryd.prog 20 #[hashV A n c rest m] w fun e w' => e = .returned (.bool (rightB n rest m)) ∧ Below w.heap.size w w' := by
  unfold hashV
  by_cases h1 : n = 8
  · have e1 : ((n : Int) == 8) = true := by rw [h1]; rfl
    by_cases h2 : rest.size < 64
    · have e2 : (rest.size : Int) < 64 := by omega
      have hw : IntKind.i64.wrap ((m : Int) % 64) = (m : Int) % 64 := by rw [kw64]; unfold wrap64; omega
      by_cases h3 : m % 64 = rest.size
      · have e3 : ((m : Int) % 64 == (rest.size : Int)) = true := by rw [beq_iff_eq]; omega
        have hr : rightB n rest m = true := by unfold rightB; simp [h1, h2, h3]
        rw [hr]; clear hr h1 h3
        go_enter Tryd.func20, Tryd.ntmps20
        go_wp2
        go_ret
        exact ⟨rfl, below_alloc (Below.refl _ _) _⟩
      · have e3 : ((m : Int) % 64 == (rest.size : Int)) = false := by rw [beq_eq_false_iff_ne]; omega
        have hr : rightB n rest m = false := by unfold rightB; simp [h3]
        rw [hr]; clear hr h1 h3
        go_enter Tryd.func20, Tryd.ntmps20
        go_wp2
        go_ret
        exact ⟨rfl, below_alloc (Below.refl _ _) _⟩
    · have e2 : (64 : Int) ≤ (rest.size : Int) := by omega
      have hr : rightB n rest m = false := by unfold rightB; simp [h2]
      rw [hr]; clear hr h1 h2
      go_enter Tryd.func20, Tryd.ntmps20
      go_wp2
      go_ret
      exact ⟨rfl, below_alloc (Below.refl _ _) _⟩
  · have e1 : ((n : Int) == 8) = false := by rw [beq_eq_false_iff_ne]; omega
    have hr : rightB n rest m = false := by unfold rightB; simp [h1]
    rw [hr]; clear hr h1
    go_enter Tryd.func20, Tryd.ntmps20
    go_wp2
    go_ret
    exact ⟨rfl, below_alloc (Below.refl _ _) _⟩
set_option maxHeartbeats 8000000 in
set_option maxRecDepth 100000 in
theorem DigestSums_walk (A : Option Addr) (n0 c : Nat) (rest : ByteArray) (m : Nat) (f : Nat → W32) (s0 : ByteArray) (W : World) (hn : n0 ≤ c) (hR : RowN W A n0 f) (hK : KeysAt W) :
    Calls Tryd.prog 3 #[hashV A n0 c rest m, .string s0] W fun e W' => e = .returned (.bool true) ∧ Below W.heap.size W W' := by
  have h300 := headB_size s0 300
  have hr66 := headB_size rest 66
  have HK := Lib.hid (fun w1 (hg : Gr W w1) => hK.up hg)
  have HRN := Lib.hid (fun w1 (hg : Gr W w1) => (hR.less (Nat.min_le_left n0 9)).up hg)
  have HF := Lib.hid (few03 A n0 c rest m · hn)
  have HC := Lib.hid (cut03 s0)
  clear hK hR
  have hc9 : min n0 9 ≤ c := by omega
  generalize headB s0 300 = s at *
  generalize headB rest 66 = r at *
  generalize min n0 9 = n at *
  have hs : s.size ≤ 100000 := by omega
  have hr1 : r.size ≤ 1000 := by omega
  clear h300 hr66
  have HRi := Lib.hid (fun w1 => Right_any A n c r m w1)
  have HRr := Lib.hid (fun w1 => RRight_any A n c r m w1)
  unfold hashV at *
  have HO := (Own.start W).alloc' (.cells #[.slice A n0 c, .string rest, .int .u64 (m : Int)] 25) rfl
  go_enter Tryd.func3, Tryd.ntmps3
  have c0 := HO.cell 0 rfl
  go_wp2_with fail
  clear c0
  refine (HF.out _).mono ?_
  rintro e w1 ⟨rfl, hb⟩
  replace HO := HO.up hb
  clear hb HF
  go_wp2_with fail
  refine (HC.out _).mono ?_
  rintro e w1 ⟨rfl, hb⟩
  replace HO := HO.up hb
  clear hb HC
  have c0 := HO.cell 0 rfl
  have f0 := HO.frozen 0 rfl
  go_wp2_with fail
  clear c0 f0
  replace HO := HO.set' 0 rfl 0 (.slice A n c) (L' := [(W.heap.size, .cells #[(.slice A n c), (.string rest), (.int .u64 (m : Int))] 25 (0, 0))]) rfl
  replace HO := HO.set' 0 rfl 1 (.string r) (L' := [(W.heap.size, .cells #[(.slice A n c), (.string r), (.int .u64 (m : Int))] 25 (0, 0))]) rfl
  replace HO := HO.set' 0 rfl 2 (.int .u64 (m : Int)) (L' := [(W.heap.size, .cells #[(.slice A n c), (.string r), (.int .u64 (m : Int))] 25 (0, 0))]) rfl
  revert HO
  generalize World.setCell (World.setCell (World.setCell _ _ _) _ _) _ _ = wb
  intro HO
  cases hrb : rightB n r m
  · rw [hrb] at HRi HRr
    refine (Write_no A n c r s m _ hrb).mono ?_
    rintro e w2 ⟨rfl, hb⟩
    replace HO := HO.up hb
    clear hb
    unfold hashV
    replace HO := HO.alloc' (.cells #[.slice none 0 0, .string ⟨#[]⟩, .int .u64 0] 25) rfl
    have c0 := HO.cell 1 rfl
    go_wp2_with fail
    clear c0
    generalize w2.heap.size = gw at *
    generalize World.alloc w2 _ = w3 at *
    have HS := Sum_no A n c r m
    unfold hashV at HS
    refine (HS _ hrb).mono ?_
    rintro e w4 ⟨rfl, hb⟩
    replace HO := HO.up hb
    clear hb HS
    go_wp2_with fail
    refine kall [(0, true, some 25), (1, true, some 26), (2, true, some 27), (3, true, some 28), (4, true, some 29), (5, true, some 30), (6, true, some 31), (7, true, some 32), (8, true, some 33)] (by kernel_rfl) rfl (by kernel_rfl) rfl (fun _ _ _ _ _ h => h) ?_
    (refine sB (v := ?_) (a' := ?_) rfl rfl (by rfl) ?_ ?_ ?_; rotate_left 2; (· intro w1 hg; (refine Eq.trans (run_load_row 25 (.tmp 2) rfl W.heap.size (by rfl) _ #[.slice A n c, .string r, .int .u64 (m : Int)] _ _ ((HO.up hg).blk 1 rfl) Tryd.underlying25 rfl (by kernel_rfl)) ?_; with_reducible rfl)); (· simp only [Act.put, List.setIfInBounds_toArray, List.set_cons_zero, List.set_cons_succ, kw64, kw32]; rfl))
    (refine sD (v := ?_) (a' := ?_) Tryd.func19 rfl rfl (by rfl) rfl (by kernel_rfl) rfl (by rfl) ?_ ?_ ?_; rotate_left 2; (· intro w1 hg; exact HRi.out w1); (· simp only [Act.put, List.setIfInBounds_toArray, List.set_cons_zero, List.set_cons_succ, kw64, kw32]; rfl))
    (refine sB (v := ?_) (a' := ?_) rfl rfl (by rfl) ?_ ?_ ?_; rotate_left 2; (· intro w1 hg; (refine Eq.trans (run_load_row 25 (.tmp 2) rfl W.heap.size (by rfl) _ #[.slice A n c, .string r, .int .u64 (m : Int)] _ _ ((HO.up hg).blk 1 rfl) Tryd.underlying25 rfl (by kernel_rfl)) ?_; with_reducible rfl)); (· simp only [Act.put, List.setIfInBounds_toArray, List.set_cons_zero, List.set_cons_succ, kw64, kw32]; rfl))
    (refine sD (v := ?_) (a' := ?_) Tryd.func20 rfl rfl (by rfl) rfl (by kernel_rfl) rfl (by rfl) ?_ ?_ ?_; rotate_left 2; (· intro w1 hg; exact HRr.out w1); (· simp only [Act.put, List.setIfInBounds_toArray, List.set_cons_zero, List.set_cons_succ, kw64, kw32]; rfl))
    (refine sP (v := ?_) (a' := ?_) rfl rfl (by rfl) ?_ ?_ ?_; rotate_left 2; (· intro w'; go_simp; with_reducible rfl); (· simp only [Act.put, List.setIfInBounds_toArray, List.set_cons_zero, List.set_cons_succ, kw64, kw32]; rfl))
    (refine sP (v := ?_) (a' := ?_) rfl rfl (by rfl) ?_ ?_ ?_; rotate_left 2; (· intro w'; go_simp; with_reducible rfl); (· simp only [Act.put, List.setIfInBounds_toArray, List.set_cons_zero, List.set_cons_succ, kw64, kw32]; rfl))
    (refine sD (v := ?_) (a' := ?_) Tryd.func21 rfl rfl (by rfl) rfl (by kernel_rfl) rfl (by rfl) ?_ ?_ ?_; rotate_left 2; (· intro w1 hg; exact alive03 w1 (HK.out w1 (HO.up hg).below)); (· simp only [Act.put, List.setIfInBounds_toArray, List.set_cons_zero, List.set_cons_succ, kw64, kw32]; rfl))
    (refine sP (v := ?_) (a' := ?_) rfl rfl (by rfl) ?_ ?_ ?_; rotate_left 2; (· intro w'; go_simp; with_reducible rfl); (· simp only [Act.put, List.setIfInBounds_toArray, List.set_cons_zero, List.set_cons_succ, kw64, kw32]; rfl))
    (refine sP (v := ?_) (a' := ?_) rfl rfl (by rfl) ?_ ?_ ?_; rotate_left 2; (· intro w'; go_simp; with_reducible rfl); (· simp only [Act.put, List.setIfInBounds_toArray, List.set_cons_zero, List.set_cons_succ, kw64, kw32]; rfl))
    intro w1 hg
    replace HO := HO.up hg
    clear hg
    have c0 := HO.cell 1 rfl
    go_wp2_with fail
    clear c0
    refine (HRr.out _).mono ?_
    rintro e w5 ⟨rfl, hb⟩
    replace HO := HO.up hb
    clear hb
    have c0 := HO.cell 0 rfl
    have hse := fun w1 => Same_any none none 0 0 0 0 ivF ivF ⟨#[]⟩ ⟨#[]⟩ 0 0 w1 (by decide) (RowN.zero _ _ _) (RowN.zero _ _ _)
    rw [sameB_self] at hse
    unfold hashV at hse
    go_wp2_with fail
    clear c0
    refine (hse _).mono ?_
    rintro e w6 ⟨rfl, hb⟩
    replace HO := HO.up hb
    clear hb hse
    go_wp2
    go_ret
    exact ⟨rfl, HO.below⟩
  · rw [hrb] at HRi HRr
    have h8 : n = 8 := by unfold rightB at hrb; simp at hrb; exact hrb.1
    have hr64 : r.size < 64 := by unfold rightB at hrb; simp at hrb; exact hrb.2.1
    subst h8
    have HRN8 := Lib.hid (fun w1 (hg : Gr W w1) => (HRN.out w1 hg).to8)
    clear HRN
    refine (Write_yes A c f r s m _ (HRN8.out _ HO.below) (HK.out _ HO.below) hrb hs).mono ?_
    rintro e w2 ⟨⟨g1, _, rfl, hRw⟩, hb⟩
    replace HO := HO.up hb
    clear hb
    have HW := Lib.hid (fun A1 c1 A2 c2 w1 (hk : KAt w1 A1 c1 A2 c2) (hg : Gr W w1) => RWrite_any A1 c1 A2 c2 A c f r s m w1 hk (HRN8.out w1 hg) hc9 hr1 hs)
    have HSu := Lib.hid (fun A1 c1 A2 c2 w1 (hk : KAt w1 A1 c1 A2 c2) (hg : Gr W w1) => RSum_any A1 c1 A2 c2 A c f r m w1 hk (HRN8.out w1 hg) hc9 hr64)
    have HSm := Lib.hid (fun w1 (hg : Gr W w1) => Sum_yes A c f r m w1 (HRN8.out w1 hg) (HK.out w1 hg) hrb)
    unfold SumR at HSm
    unfold hashV kV at *
    generalize leftF (r ++ s) = lf at *
    generalize wordsF f (r ++ s) = F at *
    generalize addM m s.size = m2 at *
    generalize sumF f r m = x at *
    have hxx : (x.toList == x.toList) = true := by simp
    replace HO := HO.alloc' (.cells #[.slice (some ⟨g1, 0, none⟩) 8 8, .string lf, .int .u64 (m2 : Int)] 25) rfl
    replace hRw := hRw.up (below_alloc (Below.refl _ _) (.cells #[.slice (some ⟨g1, 0, none⟩) 8 8, .string lf, .int .u64 (m2 : Int)] 25))
    have c0 := HO.cell 1 rfl
    go_wp2_with fail
    clear c0
    generalize w2.heap.size = gw at *
    generalize World.alloc w2 _ = w3 at *
    refine (HSm.out _ HO.below).mono ?_
    rintro e w4 ⟨rfl, hb⟩
    replace HO := HO.up hb
    replace hRw := hRw.up hb
    clear hb HSm
    go_wp2_with fail
    refine kall [(0, true, some 25), (1, true, some 26), (2, true, some 27), (3, true, some 28), (4, true, some 29), (5, true, some 30), (6, true, some 31), (7, true, some 32), (8, true, some 33)] (by kernel_rfl) rfl (by kernel_rfl) rfl (fun _ _ _ _ _ h => h) ?_
    (refine sB (v := ?_) (a' := ?_) rfl rfl (by rfl) ?_ ?_ ?_; rotate_left 2; (· intro w1 hg; (refine Eq.trans (run_load_row 25 (.tmp 2) rfl W.heap.size (by rfl) _ #[.slice A 8 c, .string r, .int .u64 (m : Int)] _ _ ((HO.up hg).blk 1 rfl) Tryd.underlying25 rfl (by kernel_rfl)) ?_; with_reducible rfl)); (· simp only [Act.put, List.setIfInBounds_toArray, List.set_cons_zero, List.set_cons_succ, kw64, kw32]; rfl))
    (refine sD (v := ?_) (a' := ?_) Tryd.func19 rfl rfl (by rfl) rfl (by kernel_rfl) rfl (by rfl) ?_ ?_ ?_; rotate_left 2; (· intro w1 hg; exact HRi.out w1); (· simp only [Act.put, List.setIfInBounds_toArray, List.set_cons_zero, List.set_cons_succ, kw64, kw32]; rfl))
    (refine sB (v := ?_) (a' := ?_) rfl rfl (by rfl) ?_ ?_ ?_; rotate_left 2; (· intro w1 hg; (refine Eq.trans (run_load_row 25 (.tmp 2) rfl W.heap.size (by rfl) _ #[.slice A 8 c, .string r, .int .u64 (m : Int)] _ _ ((HO.up hg).blk 1 rfl) Tryd.underlying25 rfl (by kernel_rfl)) ?_; with_reducible rfl)); (· simp only [Act.put, List.setIfInBounds_toArray, List.set_cons_zero, List.set_cons_succ, kw64, kw32]; rfl))
    (refine sD (v := ?_) (a' := ?_) Tryd.func20 rfl rfl (by rfl) rfl (by kernel_rfl) rfl (by rfl) ?_ ?_ ?_; rotate_left 2; (· intro w1 hg; exact HRr.out w1); (· simp only [Act.put, List.setIfInBounds_toArray, List.set_cons_zero, List.set_cons_succ, kw64, kw32]; rfl))
    (refine sP (v := ?_) (a' := ?_) rfl rfl (by rfl) ?_ ?_ ?_; rotate_left 2; (· intro w'; go_simp; with_reducible rfl); (· simp only [Act.put, List.setIfInBounds_toArray, List.set_cons_zero, List.set_cons_succ, kw64, kw32]; rfl))
    (refine sP (v := ?_) (a' := ?_) rfl rfl (by rfl) ?_ ?_ ?_; rotate_left 2; (· intro w'; go_simp; with_reducible rfl); (· simp only [Act.put, List.setIfInBounds_toArray, List.set_cons_zero, List.set_cons_succ, kw64, kw32]; rfl))
    (refine sD (v := ?_) (a' := ?_) Tryd.func21 rfl rfl (by rfl) rfl (by kernel_rfl) rfl (by rfl) ?_ ?_ ?_; rotate_left 2; (· intro w1 hg; exact alive03 w1 (HK.out w1 (HO.up hg).below)); (· simp only [Act.put, List.setIfInBounds_toArray, List.set_cons_zero, List.set_cons_succ, kw64, kw32]; rfl))
    (refine sP (v := ?_) (a' := ?_) rfl rfl (by rfl) ?_ ?_ ?_; rotate_left 2; (· intro w'; go_simp; with_reducible rfl); (· simp only [Act.put, List.setIfInBounds_toArray, List.set_cons_zero, List.set_cons_succ, kw64, kw32]; rfl))
    (refine sP (v := ?_) (a' := ?_) rfl rfl (by rfl) ?_ ?_ ?_; rotate_left 2; (· intro w'; go_simp; with_reducible rfl); (· simp only [Act.put, List.setIfInBounds_toArray, List.set_cons_zero, List.set_cons_succ, kw64, kw32]; rfl))
    intro w1 hg
    replace HO := HO.up hg
    replace hRw := hRw.up hg
    clear hg
    have c0 := HO.cell 1 rfl
    go_wp2_with fail
    clear c0
    refine (HRr.out _).mono ?_
    rintro e w5 ⟨rfl, hb⟩
    replace HO := HO.up hb
    replace hRw := hRw.up hb
    clear hb HRi HRr
    go_wp2_with fail
    refine (Numbers_any _).mono ?_
    rintro e w6 ⟨⟨A1, c1, A2, c2, rfl, hk⟩, hb⟩
    replace HO := HO.up hb
    replace hRw := hRw.up hb
    clear hb
    unfold kV
    replace HO := HO.alloc' (.cells #[.slice A1 64 c1, .slice A2 8 c2] 37) rfl
    replace hk := hk.up (below_alloc (Below.refl _ _) (.cells #[.slice A1 64 c1, .slice A2 8 c2] 37))
    replace hRw := hRw.up (below_alloc (Below.refl _ _) (.cells #[.slice A1 64 c1, .slice A2 8 c2] 37))
    have HKK := Lib.hid hk
    clear hk
    go_wp2_with fail
    generalize w6.heap.size = gk at *
    generalize World.alloc w6 _ = w7 at *
    refine bstart (fun w => w.heap.size) (n := 22) (ds := []) #[false, false, false, false, false, false, false, false, false, false, false, false, false, false, false, false, false, false, false, false, false, false] (by kernel_rfl) rfl rfl (Nat.le_refl _) (fun HBS => ?_)
    refine bseq (m := 11) (.inl rfl) [(0, true, some 53), (1, true, some 54), (2, true, some 55), (3, true, some 56), (4, true, some 57), (5, true, some 58), (6, true, some 59), (10, true, some 63), (7, true, some 60), (8, true, some 61), (9, true, some 62)] #[true, true, true, true, true, true, true, true, true, true, true, false, false, false, false, false, false, false, false, false, false, false] HBS (by kernel_rfl) rfl (fun _ _ _ _ _ h => h) ?_
    (refine sP (v := ?_) (a' := ?_) rfl rfl (by rfl) ?_ ?_ ?_; rotate_left 2; (· intro w'; go_simp; with_reducible rfl); (· simp only [Act.put, List.setIfInBounds_toArray, List.set_cons_zero, List.set_cons_succ, kw64, kw32]; rfl))
    (refine sP (v := ?_) (a' := ?_) rfl rfl (by rfl) ?_ ?_ ?_; rotate_left 2; (· intro w'; go_simp; with_reducible rfl); (· simp only [Act.put, List.setIfInBounds_toArray, List.set_cons_zero, List.set_cons_succ, kw64, kw32]; rfl))
    (refine sP (v := ?_) (a' := ?_) rfl rfl (by rfl) ?_ ?_ ?_; rotate_left 2; (· intro w'; go_simp; with_reducible rfl); (· simp only [Act.put, List.setIfInBounds_toArray, List.set_cons_zero, List.set_cons_succ, kw64, kw32]; rfl))
    (refine sP (v := ?_) (a' := ?_) rfl rfl (by rfl) ?_ ?_ ?_; rotate_left 2; (· intro w'; go_simp; with_reducible rfl); (· simp only [Act.put, List.setIfInBounds_toArray, List.set_cons_zero, List.set_cons_succ, kw64, kw32]; rfl))
    (refine sP (v := ?_) (a' := ?_) rfl rfl (by rfl) ?_ ?_ ?_; rotate_left 2; (· intro w'; go_simp; with_reducible rfl); (· simp only [Act.put, List.setIfInBounds_toArray, List.set_cons_zero, List.set_cons_succ, kw64, kw32]; rfl))
    (refine sP (v := ?_) (a' := ?_) rfl rfl (by rfl) ?_ ?_ ?_; rotate_left 2; (· intro w'; go_simp; with_reducible rfl); (· simp only [Act.put, List.setIfInBounds_toArray, List.set_cons_zero, List.set_cons_succ, kw64, kw32]; rfl))
    (refine sP (v := ?_) (a' := ?_) rfl rfl (by rfl) ?_ ?_ ?_; rotate_left 2; (· intro w'; go_simp; with_reducible rfl); (· simp only [Act.put, List.setIfInBounds_toArray, List.set_cons_zero, List.set_cons_succ, kw64, kw32]; rfl))
    (refine sP (v := ?_) (a' := ?_) rfl rfl (by rfl) ?_ ?_ ?_; rotate_left 2; (· intro w'; go_simp; with_reducible rfl); (· simp only [Act.put, List.setIfInBounds_toArray, List.set_cons_zero, List.set_cons_succ, kw64, kw32]; rfl))
    (refine sB (v := ?_) (a' := ?_) rfl rfl (by rfl) ?_ ?_ ?_; rotate_left 2; (· intro w1 hg; (refine Eq.trans (run_load_row 25 (.tmp 5) rfl gw (by rfl) _ #[.slice (some ⟨g1, 0, none⟩) 8 8, .string lf, .int .u64 (m2 : Int)] _ _ ((HO.up hg).blk 1 rfl) Tryd.underlying25 rfl (by kernel_rfl)) ?_; with_reducible rfl)); (· simp only [Act.put, List.setIfInBounds_toArray, List.set_cons_zero, List.set_cons_succ, kw64, kw32]; rfl))
    (refine sB (v := ?_) (a' := ?_) rfl rfl (by rfl) ?_ ?_ ?_; rotate_left 2; (· intro w1 hg; (refine Eq.trans (run_load_row 37 (.tmp 9) rfl gk (by rfl) _ #[.slice A1 64 c1, .slice A2 8 c2] _ _ ((HO.up hg).blk 0 rfl) Tryd.underlying37 rfl (by kernel_rfl)) ?_; with_reducible rfl)); (· simp only [Act.put, List.setIfInBounds_toArray, List.set_cons_zero, List.set_cons_succ, kw64, kw32]; rfl))
    (refine sB (v := ?_) (a' := ?_) rfl rfl (by rfl) ?_ ?_ ?_; rotate_left 2; (· intro w1 hg; (refine Eq.trans (run_load_row 25 (.tmp 2) rfl W.heap.size (by rfl) _ #[.slice A 8 c, .string r, .int .u64 (m : Int)] _ _ ((HO.up hg).blk 2 rfl) Tryd.underlying25 rfl (by kernel_rfl)) ?_; with_reducible rfl)); (· simp only [Act.put, List.setIfInBounds_toArray, List.set_cons_zero, List.set_cons_succ, kw64, kw32]; rfl))
    refine bone (i := 11) (N := (some 64)) #[true, true, true, true, true, true, true, true, true, true, true, true, false, false, false, false, false, false, false, false, false, false] rfl rfl (by kernel_rfl) HBS (fun w1 hg K hK => ?_)
    rw [if_pos (by rfl)]
    replace HO := HO.up hg
    have HKK := Lib.hid (HKK.out.up hg)
    refine wp_call Tryd.func24 rfl (by kernel_rfl) rfl (by rfl) ((HW.out _ _ _ _ _ HKK.out HO.below).mono ?_)
    rintro e w8 ⟨⟨A', c', _, rfl, hR⟩, hb⟩
    refine ⟨_, rfl, hK _ _ (not_ds (by decide) hb) (fun HBS => ?_)⟩
    replace HO := HO.up hb
    replace hRw := (hRw.up hg).up hb
    have HKK := Lib.hid (HKK.out.up hb)
    have hse := fun w1 (hg : Gr w8 w1) => Same_any (some ⟨g1, 0, none⟩) A' 8 8 8 c' F F lf lf m2 m2 w1 (by decide) (hRw.up hg).toN (hR.up hg).toN
    rw [sameB_self] at hse
    have HSE := Lib.hid hse
    clear hse hg
    unfold hashV at HSE
    refine at_dst (some 64) rfl ?_
    simp only [Act.put, List.setIfInBounds_toArray, List.set_cons_zero, List.set_cons_succ]
    refine bseq (m := 0) (.inl rfl) [(12, false, some 65), (13, true, some 66), (14, true, some 67), (15, true, some 68), (16, false, some 69), (17, false, some 70), (18, false, some 71), (19, true, some 72), (20, true, some 73), (21, true, some 4)] #[true, true, true, true, true, true, true, true, true, true, true, true, true, true, true, true, true, true, true, true, true, true] HBS (by kernel_rfl) rfl (fun _ _ _ _ _ h => h) ?_
    (refine sC (v := ?_) (a' := ?_) Tryd.func22 rfl rfl (by rfl) rfl (by kernel_rfl) rfl (by rfl) ?_ ?_ ?_; rotate_left 2; (· intro w1 hg; exact HSE.out w1 hg); (· simp only [Act.put, List.setIfInBounds_toArray, List.set_cons_zero, List.set_cons_succ, kw64, kw32]; rfl))
    (refine sP (v := ?_) (a' := ?_) rfl rfl (by rfl) ?_ ?_ ?_; rotate_left 2; (· intro w'; go_simp; with_reducible rfl); (· simp only [Act.put, List.setIfInBounds_toArray, List.set_cons_zero, List.set_cons_succ, kw64, kw32]; rfl))
    (refine sP (v := ?_) (a' := ?_) rfl rfl (by rfl) ?_ ?_ ?_; rotate_left 2; (· intro w'; go_simp; with_reducible rfl); (· simp only [Act.put, List.setIfInBounds_toArray, List.set_cons_zero, List.set_cons_succ, kw64, kw32]; rfl))
    (refine sP (v := ?_) (a' := ?_) rfl rfl (by rfl) ?_ ?_ ?_; rotate_left 2; (· intro w'; go_simp; with_reducible rfl); (· simp only [Act.put, List.setIfInBounds_toArray, List.set_cons_zero, List.set_cons_succ, kw64, kw32]; rfl))
    (refine sL (v := ?_) (a' := ?_) rfl rfl (by rfl) ?_ ?_ ?_; rotate_left 2; (· intro w1 hg; (refine Eq.trans (run_load_row 37 (.tmp 9) rfl gk (by rfl) _ #[.slice A1 64 c1, .slice A2 8 c2] _ _ ((HO.up hg).blk 0 rfl) Tryd.underlying37 rfl (by kernel_rfl)) ?_; with_reducible rfl)); (· simp only [Act.put, List.setIfInBounds_toArray, List.set_cons_zero, List.set_cons_succ, kw64, kw32]; rfl))
    (refine sL (v := ?_) (a' := ?_) rfl rfl (by rfl) ?_ ?_ ?_; rotate_left 2; (· intro w1 hg; (refine Eq.trans (run_load_row 25 (.tmp 2) rfl W.heap.size (by rfl) _ #[.slice A 8 c, .string r, .int .u64 (m : Int)] _ _ ((HO.up hg).blk 2 rfl) Tryd.underlying25 rfl (by kernel_rfl)) ?_; with_reducible rfl)); (· simp only [Act.put, List.setIfInBounds_toArray, List.set_cons_zero, List.set_cons_succ, kw64, kw32]; rfl))
    (refine sC (v := ?_) (a' := ?_) Tryd.func25 rfl rfl (by rfl) rfl (by kernel_rfl) rfl (by rfl) ?_ ?_ ?_; rotate_left 2; (· intro w1 hg; exact HSu.out _ _ _ _ w1 (HKK.out.up hg) (HO.up hg).below); (· simp only [Act.put, List.setIfInBounds_toArray, List.set_cons_zero, List.set_cons_succ, kw64, kw32]; rfl))
    (refine sP (v := ?_) (a' := ?_) rfl rfl (by rfl) ?_ ?_ ?_; rotate_left 2; (· intro w'; go_simp; with_reducible rfl); (· simp only [Act.put, List.setIfInBounds_toArray, List.set_cons_zero, List.set_cons_succ, kw64, kw32]; rfl))
    (refine sP (v := ?_) (a' := ?_) rfl rfl (by rfl) ?_ ?_ ?_; rotate_left 2; (· intro w'; go_simp; with_reducible rfl); (· simp only [Act.put, List.setIfInBounds_toArray, List.set_cons_zero, List.set_cons_succ, kw64, kw32]; rfl))
    (refine sP (v := ?_) (a' := ?_) rfl rfl (by rfl) ?_ ?_ ?_; rotate_left 2; (· intro w'; go_simp; with_reducible rfl); (· simp only [Act.put, List.setIfInBounds_toArray, List.set_cons_zero, List.set_cons_succ, kw64, kw32]; rfl))
    refine bdone (by kernel_rfl) (fun w1 hg => ?_)
    replace HO := HO.up hg
    clear hg
    go_wp2
    go_ret
    exact ⟨rfl, HO.below⟩
end Go.Proofs.YtpafocjmheemjaaDoor

set_option linter.unusedSimpArgs false
/- THE LISTED TABLE: what a row's list gives the walks (KeysAt), and a world for the witness. -/
namespace Go.Proofs.YtpafocjmheemjaaDoor
open Go.RowKit
theorem gKeys : Tryd.prog.globalNamed "demurral/digest.keys" = some 0 := by kernel_rfl
theorem gKeysType : (Tryd.prog.globals[0]?).map (·.type) = some 142 := by kernel_rfl
theorem cellsKeys : Tryd.prog.cellsOf 142 = 64 := by kernel_rfl
theorem cellsKey : Tryd.prog.cellsOf 91 = 1 := by kernel_rfl
theorem keys_laid : (Rows.laid_demurral_digest_keys : DataW Unit) = Lib.tabData .u32 (keyL.map fun n => ((n : Nat) : Int)) := by kernel_rfl
theorem keys_of {W : World} (h : laidMetH Tryd.prog [("demurral/digest.keys", Rows.laid_demurral_digest_keys)] W) : KeysAt W := by
  rw [keys_laid] at h
  have t : Lib.TabIs Tryd.prog W "demurral/digest.keys" .u32 (keyL.map fun n => ((n : Nat) : Int)) :=
    Lib.tabIs_of_head (rest := []) gKeys gKeysType Tryd.underlying142 Tryd.underlying91 cellsKey cellsKeys h
  unfold Lib.TabIs World.var? at t
  rw [gKeys] at t
  simp only [Option.bind_some] at t
  split at t
  · rename_i cs ty fr hh
    refine ⟨ty, fr, ?_⟩
    rw [hh, Option.some.inj t]
    unfold keysA
    rw [List.map_map]
    rfl
  · cases t
/-- a world for the witness: the settled one, the table holding what its initialiser lays -/
noncomputable def laidWorld (os : Os) : World :=
  { World.holding Tryd.prog os ⟨#[], #[], []⟩ with heap := (World.holding Tryd.prog os ⟨#[], #[], []⟩).heap.modify 0 fun
      | .cells _ t frozen => .cells keysA t frozen
      | o => o }
theorem laid_world (os : Os) (args : Array Value) : laidMet Tryd.prog [("demurral/digest.keys", Rows.laid_demurral_digest_keys)] ((laidWorld os).forCall (fun _ _ => 0) ⟨#[], args, []⟩).memory :=
  laidMet_of_run' 8 (by kernel_rfl) (by kernel_rfl)
/-- no parameter wants a stand-in, when the kinds say so one by one -/
theorem looks_off : false = Tryd.pinned.checked.prog.looks [] := by kernel_rfl
end Go.Proofs.YtpafocjmheemjaaDoor

namespace Go.Proofs.YtpafocjmheemjaaDoor
open Go.RowKit Go.Proofs.YtpafocjmheemjaaDoorW.PrintWords Go.ChangeShapes Go.WideShapes Go.Deep
theorem u64_bounds {k : Int} (h : (Lit.int .u64 k).wf = true) : 0 ≤ k ∧ k < 18446744073709551616 := by
  simp [Lit.wf, IntKind.min, IntKind.max, IntKind.signed, IntKind.bits] at h
  omega
section
variable {H : Type} {enc : TypeId × Value → H} {P : Program} {W : World}
/-- A slice argument, opened: each element by its own kind. -/
theorem open_C {α : Type} [Inhabited α] (k : Kd α) (WF : α → Prop) {t e : TypeId} (ht : P.underlying t = some (.slice e)) (hsz : P.cellsOf e = k.sz)
    (hel : ∀ n cs y, DataW.trod enc P W 0 (fun _ => true) true n e cs = some y → ∃ x, k.K W x cs ∧ WF x) {a : Option Addr} {len cap : Nat} {d : DataW H} {p : List MemPlace}
    (h : DataW.Trod enc P W 0 (fun _ => true) true t (.slice a len cap) d p) : ∃ xs, k.C W a len xs ∧ len ≤ cap ∧ cap ≤ 9223372036854775807 ∧ ∀ x ∈ xs, WF x := by
  obtain ⟨fuel, hf⟩ := h
  rcases open_slice ht hf with ⟨hcs, _⟩ | ⟨x, l, c, m, n, D, Pl, hcs, _, hl, hm, hmm, _, hx⟩
  · simp [Value.cells] at hcs
    obtain ⟨rfl, rfl, rfl⟩ := hcs
    exact ⟨[], Kd.C_nil k W, Nat.le_refl _, by omega, by simp⟩
  · simp [Value.cells] at hcs
    obtain ⟨rfl, rfl, rfl⟩ := hcs
    simp at hmm
    subst hmm
    have hm' : m ≤ 9223372036854775807 := by simpa [maxLen] using hm
    obtain ⟨f, hf⟩ := choose_lt (p := fun i (y : α) => ∃ cs, W.cells? 0 (x.add (i * P.cellsOf e)) (P.cellsOf e) = some cs ∧ k.K W y cs ∧ WF y) (fun i hi => by
      obtain ⟨cs, h1, h2⟩ := hx i hi
      obtain ⟨y, h3, h4⟩ := hel _ _ _ h2
      exact ⟨y, cs, h1, h3, h4⟩)
    refine ⟨(List.range len).map f, ⟨by simp, by omega, fun _ => ⟨x, rfl, fun j q hj => ?_⟩⟩, hl, hm', ?_⟩
    · have hj' : j < len := by have := (List.getElem?_eq_some_iff.1 hj).1; simpa using this
      have hq : f j = q := by simpa [List.getElem?_range hj'] using hj
      subst hq
      obtain ⟨cs, h1, h2, _⟩ := hf j (by omega)
      obtain ⟨_, h3, h4⟩ := World.cells?_some h1
      refine ⟨cs, by rw [k.K_len h2], h2, fun i u hu => ?_⟩
      have := h4 i (by have := (List.getElem?_eq_some_iff.1 hu).1; omega)
      rw [← hsz, ← Deep.add_add, this]; exact hu
    · intro y hy
      obtain ⟨i, hi, rfl⟩ := List.mem_map.1 hy
      obtain ⟨_, _, _, h⟩ := hf i (by have := List.mem_range.1 hi; omega)
      exact h
end
end Go.Proofs.YtpafocjmheemjaaDoor

/- A SUM AS AN ARGUMENT, OPENED. -/
namespace Go.Proofs.YtpafocjmheemjaaDoor
open Go.RowKit Go.Proofs.YtpafocjmheemjaaDoorW.PrintWords Go.ChangeShapes Go.WideShapes Go.Deep
theorem cellsU32s : Tryd.prog.cellsOf 22 = 1 := by kernel_rfl
theorem cellsU32 : Tryd.prog.cellsOf 91 = 1 := by kernel_rfl
theorem cellsStr : Tryd.prog.cellsOf 9 = 1 := by kernel_rfl
theorem cellsU64 : Tryd.prog.cellsOf 23 = 1 := by kernel_rfl
theorem cellsHash : Tryd.prog.cellsOf 25 = 3 := by kernel_rfl
theorem u32_bounds {k : Int} (h : (Lit.int .u32 k).wf = true) : 0 ≤ k ∧ k < 4294967296 := by
  simp [Lit.wf, IntKind.min, IntKind.max, IntKind.signed, IntKind.bits] at h
  omega
section
variable {H : Type} {enc : TypeId × Value → H} {W : World}
theorem open_words {n : Nat} {cs : List Value} {y : DataW H × List MemPlace} (h : DataW.trod enc Tryd.prog W 0 (fun _ => true) true n 22 cs = some y) :
    ∃ (A : Option Addr) (l c : Nat) (f : Nat → W32), cs = [.slice A l c] ∧ l ≤ c ∧ RowN W A l f := by
  rcases open_slice1 Tryd.underlying22 cellsU32 h with ⟨rfl, _⟩ | ⟨a, l, c, m, k, V, D, Pl, rfl, _, hl, hm, hmm, _, hx⟩
  · exact ⟨none, 0, 0, fun _ => 0, rfl, Nat.le_refl _, RowN.zero _ _ _⟩
  · simp at hmm
    subst hmm
    have he : ∀ i, i < l → ∃ x : W32, W.cell? (a.add i) = some (u32 x) := fun i hi => by
      obtain ⟨h1, h2⟩ := hx i (by omega)
      obtain ⟨z, e, _, wz⟩ := DataW.trod_int Tryd.underlying91 h2
      have hz := u32_bounds wz
      have e' : V i = .int .u32 z := by simpa using e
      refine ⟨BitVec.ofNat 32 z.toNat, ?_⟩
      rw [h1, e']
      have : un (BitVec.ofNat 32 z.toNat) = z := by
        unfold un
        rw [BitVec.toNat_ofNat, Nat.mod_eq_of_lt (by omega)]
        omega
      unfold u32
      rw [this]
    obtain ⟨f, hf⟩ := choose_lt (p := fun i (x : W32) => W.cell? (a.add i) = some (u32 x)) he
    exact ⟨some a, l, m, f, rfl, hl, fun _ => ⟨a, rfl, hf⟩⟩
set_option maxRecDepth 100000 in
theorem open_hash (n : Nat) (cs : List Value) (y : DataW H × List MemPlace) (h : DataW.trod enc Tryd.prog W 0 (fun _ => true) true n 25 cs = some y) :
    ∃ (A : Option Addr) (l c : Nat) (r : ByteArray) (m : Nat) (f : Nat → W32), cs = [.slice A l c, .string r, .int .u64 (m : Int)] ∧ l ≤ c ∧ RowN W A l f := by
  obtain ⟨y0, y1, y2, k, _, hl, h0, h1, h2⟩ := trod_struct3 Tryd.underlying25 h
  rw [cellsHash] at hl
  match cs, hl with
  | [c0, c1, c2], _ =>
    obtain ⟨A, l, c, f, e0, hlc, hR⟩ := open_words h0
    obtain ⟨s, e1, _, hs⟩ := DataW.trod_string Tryd.underlying9 h1
    obtain ⟨z, e2, _, wz⟩ := DataW.trod_int Tryd.underlying23 h2
    have d0 : c0 = .slice A l c := by simpa [cellsU32s] using e0
    have d1 : c1 = .string s := by simpa [cellsU32s, cellsStr] using e1
    have d2 : c2 = .int .u64 z := by simpa [cellsU64, cellsStr] using e2
    have hz := u64_bounds wz
    refine ⟨A, l, c, s, z.toNat, f, ?_, hlc, hR⟩
    rw [d0, d1, d2, Int.toNat_of_nonneg hz.1]
end
end Go.Proofs.YtpafocjmheemjaaDoor

import Derived.Test.YtpafocjmheemjaaDoorShaD
set_option linter.unusedSimpArgs false
namespace Go.Proofs.YtpafocjmheemjaaDoor
open Go.RowKit Go.Proofs.YtpafocjmheemjaaDoorW.PrintWords
/-- eight words lie at A -/
def Row8 (w : World) (A : Option Addr) (f : Nat → W32) : Prop := ∃ ad, A = some ad ∧ ∀ j, j < 8 → w.cell? (ad.add j) = some (u32 (f j))
theorem Row8.up {w w1 : World} {A : Option Addr} {f : Nat → W32} (h : Row8 w A f) (hg : Gr w w1) : Row8 w1 A f := by
  obtain ⟨ad, rfl, h⟩ := h
  exact ⟨ad, rfl, fun j hj => pw_cell_below hg (h j hj)⟩
def hashV (A : Option Addr) (n c : Nat) (rest : ByteArray) (m : Nat) : Value := .agg #[.slice A n c, .string rest, .int .u64 (m : Int)]
def hashC (A : Option Addr) (n c : Nat) (rest : ByteArray) (m : Nat) : Array Value := #[.slice A n c, .string rest, .int .u64 (m : Int)]
/-- a sum on its way is answered, its words behind B -/
def HashR (B : Nat) (f : Nat → W32) (rest : ByteArray) (m : Nat) (e : Ending) (w : World) : Prop := ∃ g, B ≤ g ∧ e = .returned (hashV (some ⟨g, 0, none⟩) 8 8 rest m) ∧ Row8 w (some ⟨g, 0, none⟩) f
theorem Row8.set {w : World} {g g' j : Nat} {f : Nat → W32} {v : Value} (h : Row8 w (some ⟨g, 0, none⟩) f) (hne : g ≠ g') : Row8 (w.setCell ⟨g', j, none⟩ v) (some ⟨g, 0, none⟩) f := by
  obtain ⟨ad, he, h⟩ := h
  injection he with he
  subst he
  refine ⟨_, rfl, fun j hj => ?_⟩
  have := h j hj
  rw [Addr.add_mid, Nat.zero_add] at *
  simp only [World.cell?] at this ⊢
  rw [Below.heap_setCell w _ v g hne]
  exact this
theorem arr8_list (f : Nat → W32) (j : Nat) (v : Value) (h : (arr8 f).toList[j]? = some v) : j < 8 ∧ v = u32 (f j) := by
  have hl : j < 8 := by
    have := (List.getElem?_eq_some_iff.1 h).1
    simpa [arr8] using this
  have := arr8_get f j hl
  rw [← Array.getElem?_toList, h] at this
  exact ⟨hl, Option.some.inj this⟩
theorem load8 {P : Program} (w : World) (ad : Addr) (ty : TypeId) (f : Nat → W32) (d : TypeDesc) (hc : ∀ j, j < 8 → w.cell? (ad.add j) = some (u32 (f j)))
    (hu : P.underlying ty = some d) (hd : (match d with | .struct _ | .array _ _ => true | _ => false) = true) (hi : (P.info? ty).map (·.size) = some 8) : (loadVar ty ad).run P w = .ok (.agg (arr8 f)) w := by
  have hl : (loadCells ad (arr8 f).toList.length).run P w = .ok (arr8 f).toList.toArray w :=
    run_loadCells_list (P := P) w ad (arr8 f).toList (fun j v hv => by obtain ⟨h1, rfl⟩ := arr8_list f j v hv; exact hc j h1)
  cases hq : P.info? ty with
  | none => simp [hq] at hi
  | some i =>
    have hs : i.size = 8 := by simpa [hq] using hi
    have hagg : (isAgg ty).run P w = .ok true w := by
      unfold isAgg
      rw [Sem.run_bind, run_underlying hu w]
      cases d <;> simp_all
    rw [show (arr8 f).toList.length = 8 from rfl, Array.toArray_toList] at hl
    simp [loadVar, Sem.run_bind, hagg, sizeOf, typeInfo, hq, hs, hl]
theorem exec_load8 {P : Program} {o : Oper} {a : Act} {w : World} (ty : TypeId) (x : Operand) (ho : o.op = .load ty x) (ad : Addr) (f : Nat → W32) (hx : a.eval x = .pointer (some ad)) (d : TypeDesc) (hc : ∀ j, j < 8 → w.cell? (ad.add j) = some (u32 (f j)))
    (hu : P.underlying ty = some d) (hd : (match d with | .struct _ | .array _ _ => true | _ => false) = true) (hi : (P.info? ty).map (·.size) = some 8) : (execOp a.eval o).run P w = .ok (.value (.agg (arr8 f))) w := by
  unfold execOp
  simp only [ho, hx, Instr.loadAt, Instr.sureAddr, Sem.run_bind, Sem.run_pure, Result.andThen_ok, load8 w ad ty f d hc hu hd hi]
theorem ext_size (b : ByteArray) (i : Nat) : (b.extract i b.size).size = b.size - i := by rw [ByteArray.size_extract]; omega
theorem ext_take (b : ByteArray) (i : Nat) (h : i + 64 ≤ b.size) : (b.extract i b.size).extract 0 64 = b.extract i (i + 64) := by
  rw [ByteArray.extract_extract]; congr 1; omega
theorem ext_drop (b : ByteArray) (i : Nat) : (b.extract i b.size).extract 64 (b.extract i b.size).size = b.extract (i + 64) b.size := by
  rw [ByteArray.extract_extract, ext_size]; congr 1; omega
/-- sums of 64 bits -/
def addM (m n : Nat) : Nat := (m + n) % 18446744073709551616
theorem addM_lt (m n : Nat) : addM m n < 18446744073709551616 := Nat.mod_lt _ (by decide)
theorem wrap_addM (m n : Nat) : IntKind.u64.wrap ((m : Int) + (n : Int)) = (addM m n : Nat) := by
  show ((m : Int) + (n : Int)) % 18446744073709551616 = _
  unfold addM; omega
theorem wrap_u64n (n : Nat) (h : n < 18446744073709551616) : IntKind.u64.wrap (n : Int) = (n : Int) := by
  show (n : Int) % 18446744073709551616 = _
  omega
def strLen : Value → Nat
  | .string s => s.size
  | _ => 0
/-- the k-th block -/
def blkF (all : ByteArray) (k : Nat) : ByteArray := all.extract (64 * k) (64 * k + 64)
def foldF (f : Nat → W32) (all : ByteArray) : Nat → Nat → W32
  | 0 => f
  | k + 1 => mixF (foldF f all k) (blkF all k)
/-- words, and what is left, behind all -/
def wordsF (f : Nat → W32) (all : ByteArray) : Nat → W32 := foldF f all (all.size / 64)
def leftF (all : ByteArray) : ByteArray := all.extract (64 * (all.size / 64)) all.size
def ivL : List Nat := [1779033703, 3144134277, 1013904242, 2773480762, 1359893119, 2600822924, 528734635, 1541459225]
def ivF (j : Nat) : W32 := BitVec.ofNat 32 (ivL.getD j 0)
theorem run_s2a {P : Program} {o : Oper} {a : Act} {w : World} (ty e : TypeId) (x : Operand) (ho : o.op = .sliceToArrayPointer ty x) (ad : Addr) (c : Nat) (hx : a.eval x = .slice (some ad) 8 c) (hu : P.underlying ty = some (.array 8 e)) :
    (execOp a.eval o).run P w = .ok (.value (.pointer (some ad))) w := by
  unfold execOp
  simp [ho, hx, Instr.arrayAt, run_underlying hu]
attribute [local irreducible] Calls mixF
attribute [local go_sem] un_or un_xor un_and un_add un_addw
set_option maxHeartbeats 1000000 in
theorem New_any (w : World) : Calls Tryd.prog 26 #[] w fun e w' => HashR w.heap.size ivF ⟨#[]⟩ 0 e w' ∧ Below w.heap.size w w' := by
  go_enter Tryd.func26, Tryd.ntmps26
  go_wp2
  exact bodyPost_ret (v := hashV (some ⟨w.heap.size + 1, 0, none⟩) 8 8 ⟨#[]⟩ 0) (by simp [results, Tryd.results26, go_sem, hashV, *]) rfl ⟨⟨_, by omega, rfl, _, rfl, fun j hj => by
    rw [show (⟨w.heap.size + 1, 0, none⟩ : Addr).add j = ⟨w.heap.size + 1, j, none⟩ by rw [Addr.add_mid, Nat.zero_add]]
    exact (cell_of_row _ (w.heap.size + 1) j (arr8 ivF) 91 (0, 0) (heap_alloc2_new w _ _)).trans (arr8_get _ j hj)⟩, below_alloc (below_alloc (Below.refl _ _) _) _⟩
set_option maxHeartbeats 4000000 in
set_option maxRecDepth 100000 in
theorem behind_any (A : Option Addr) (c : Nat) (f : Nat → W32) (rest s : ByteArray) (m : Nat) (w : World) (hR : Row8 w A f) (hK : KeysAt w) (h1 : rest.size ≤ 1000) (h2 : s.size ≤ 100000) :
    Calls Tryd.prog 59 #[hashV A 8 c rest m, .string s] w fun e w' => HashR w.heap.size (wordsF f (rest ++ s)) (leftF (rest ++ s)) (addM m s.size) e w' ∧ Below w.heap.size w w' := by
  unfold hashV
  obtain ⟨ad, rfl, hR⟩ := hR
  have HR := Lib.hid hR
  clear hR
  go_enter Tryd.func59, Tryd.ntmps59
  have HO := ((Own.start w).alloc' (.cells (hashC (some ad) 8 c rest m) 25) rfl).alloc' (.cells #[.slice none 0 0, .string ⟨#[]⟩, .int .u64 0] 25) (by simp : _ = w.heap.size + 1)
  unfold hashC at HO
  have hcat : ¬ (rest.size + s.size > 9223372036854775807) := by omega
  go_wp2_with fail
  refine bstart (fun w => w.heap.size) (n := 11) (ds := [9]) #[false, false, false, false, false, false, false, false, false, false, false] (by kernel_rfl) rfl rfl (Nat.le_refl _) (fun HBS => ?_)
  refine bseq (m := 3) (.inl rfl) [(0, true, some 7), (4, true, some 11), (6, true, some 13), (1, true, some 8), (2, true, some 9), (3, true, some 10), (5, true, some 12), (7, true, some 14)] #[true, true, true, true, true, true, true, true, false, false, false] HBS (by kernel_rfl) rfl (fun _ _ _ _ _ h => h) ?_
  repeat (first
    | (refine sP (v := ?_) (a' := ?_) rfl rfl (by rfl) ?_ ?_ ?_; rotate_left 2; (· intro w'; (first | (go_simp; with_reducible rfl) | (refine Eq.trans (run_s2a 130 _ (.tmp 8) rfl ad c (by rfl) Tryd.underlying130) ?_; with_reducible rfl))); (· simp only [Act.put, List.setIfInBounds_toArray, List.set_cons_zero, List.set_cons_succ, kw64, kw32]; rfl))
    | (refine sB (v := ?_) (a' := ?_) rfl rfl (by rfl) ?_ ?_ ?_; rotate_left 2; (· intro w1 hg; have c0 := (HO.up hg).cell 1 rfl; (first | (refine Eq.trans (exec_load8 130 (.tmp 9) rfl ad f (by rfl) _ (fun j hj => pw_cell_below ((HO.up hg).below) (HR.out j hj)) Tryd.underlying130 rfl (by kernel_rfl)) ?_; with_reducible rfl) | (go_simp; with_reducible rfl))); (· simp only [Act.put, List.setIfInBounds_toArray, List.set_cons_zero, List.set_cons_succ, kw64, kw32]; rfl)))
  refine bone (i := 8) (N := (some 5)) #[true, true, true, true, true, true, true, true, true, false, false] rfl rfl (by kernel_rfl) HBS (fun w1 hg K hK => ?_)
  rw [if_pos (by rfl)]
  replace HO := HO.up hg
  have hz := HO.lt 0 rfl
  go_simp
  refine hK _ _ (not_ds (by decide) (below_alloc (Below.refl _ _) _)) (fun HBS => ?_)
  replace HO := HO.alloc (.cells #[.int .u32 0, .int .u32 0, .int .u32 0, .int .u32 0, .int .u32 0, .int .u32 0, .int .u32 0, .int .u32 0] 130)
  have hga := Below.size hg
  clear hg K hK hz
  generalize w1.alloc (.cells #[.int .u32 0, .int .u32 0, .int .u32 0, .int .u32 0, .int .u32 0, .int .u32 0, .int .u32 0, .int .u32 0] 130) = wa at *
  generalize w1.heap.size = ga at *
  refine bone (i := 9) (N := none) #[true, true, true, true, true, true, true, true, true, true, false] rfl rfl (by kernel_rfl) HBS (fun w1 hg K hK => ?_)
  rw [if_pos (by rfl)]
  replace HO := HO.up hg
  refine wp_store_row 130 (.tmp 5) (.tmp 10) rfl ga (arr8 f) (by rfl) (by rfl) _ _ (HO.blk 0 rfl) (by kernel_rfl) rfl (arr8_one _) ?_
  refine hK _ _ (in_ds (by decide) (bel_setRow (by omega) _)) (fun HBS => ?_)
  replace HO := HO.setRow 0 rfl (arr8 f) rfl
  clear hg K hK
  revert HO HBS
  generalize World.setRow w1 _ _ = wb
  intro HBS HO
  refine bseq (m := 0) (.inl rfl) [(10, true, some 6)] #[true, true, true, true, true, true, true, true, true, true, true] HBS (by kernel_rfl) rfl (fun _ _ _ _ _ h => h) ?_
  repeat (first
    | (refine sP (v := ?_) (a' := ?_) rfl rfl (by rfl) ?_ ?_ ?_; rotate_left 2; (· intro w'; (first | (go_simp; with_reducible rfl) | (refine Eq.trans (run_s2a 130 _ (.tmp 8) rfl ad c (by rfl) Tryd.underlying130) ?_; with_reducible rfl))); (· simp only [Act.put, List.setIfInBounds_toArray, List.set_cons_zero, List.set_cons_succ, kw64, kw32]; rfl))
    | (refine sL (v := ?_) (a' := ?_) rfl rfl (by rfl) ?_ ?_ ?_; rotate_left 2; (· intro w1 hg; have c0 := (HO.up hg).cell 1 rfl; (first | (refine Eq.trans (exec_load8 130 (.tmp 9) rfl ad f (by rfl) _ (fun j hj => pw_cell_below ((HO.up hg).below) (HR.out j hj)) Tryd.underlying130 rfl (by kernel_rfl)) ?_; with_reducible rfl) | (go_simp; with_reducible rfl))); (· simp only [Act.put, List.setIfInBounds_toArray, List.set_cons_zero, List.set_cons_succ, kw64, kw32]; rfl)))
  refine bdone (by kernel_rfl) (fun w1 hg => ?_)
  replace HO := HO.up hg
  clear hg hcat hga
  have hall : (rest ++ s).size ≤ 101000 := by rw [ByteArray.size_append]; omega
  have hE := Lib.hid (ByteArray.size_append (a := rest) (b := s))
  generalize hra : rest ++ s = all at *
  have HA := Lib.hid hra
  clear hra
  have hGe := HO.ge 0 rfl
  go_wp2_with fail
  go_loopw [6] (fun c1 wr => ∃ k : Nat, c1 = .string (all.extract (64 * k) all.size) ∧ Aside0 (64 * k ≤ all.size) ∧ Own w [(ga, .cells (arr8 (foldF f all k)) 130 (0, 0)), (w.heap.size + 1, .cells #[.slice none 0 0, .string ⟨#[]⟩, .int .u64 0] 25 (0, 0)), (w.heap.size, .cells #[.slice (some ad) 8 c, .string rest, .int .u64 (m : Int)] 25 (0, 0))] wr) (fun c1 _ => strLen c1)
  case atStart => exact ⟨0, by rw [Nat.mul_zero]; rw [ByteArray.extract_zero_size], ⟨by omega⟩, HO⟩
  case round =>
    clear HO
    obtain ⟨k, rfl, Hk, HO⟩ := hrel
    by_cases hlt : 64 * k + 64 ≤ all.size
    · have hxs := ext_size all (64 * k)
      have hbk := Lib.hid (ext_take all (64 * k) hlt)
      have hdr := Lib.hid (ext_drop all (64 * k))
      have h64 : (64 : Int) ≤ ((all.extract (64 * k) all.size).size : Int) := by omega
      have h00 : (0 : Int) ≤ ((all.extract (64 * k) all.size).size : Int) := by omega
      have hms : strLen (.string (all.extract (64 * k + 64) all.size)) < strLen (.string (all.extract (64 * k) all.size)) := by
        have := ext_size all (64 * k + 64)
        show (all.extract (64 * k + 64) all.size).size < (all.extract (64 * k) all.size).size
        omega
      clear hxs
      generalize all.extract (64 * k) all.size = x at *
      have hx : (x.extract 0 64).size = 64 := by rw [ByteArray.size_extract]; omega
      have HX := Lib.hid hx
      clear hx
      go_wp2_with fail
      refine bstart (fun _ => w.heap.size) (n := 5) (ds := [4]) #[false, false, false, false, false] (by kernel_rfl) rfl rfl HO.below.size (fun HBS => ?_)
      refine bseq (m := 1) (.inl rfl) [(1, true, some 21), (2, true, some 22), (0, false, some 20), (3, false, some 23)] #[true, true, true, true, false] HBS (by kernel_rfl) rfl (fun _ _ _ _ _ h => h) ?_
      repeat (first
        | (refine sP (v := ?_) (a' := ?_) rfl rfl (by rfl) ?_ ?_ ?_; rotate_left 2; (· intro w'; go_simp; with_reducible rfl); (· simp only [Act.put, List.setIfInBounds_toArray, List.set_cons_zero, List.set_cons_succ, kw64, kw32]; rfl))
        | (refine sC (v := ?_) (a' := ?_) Tryd.func84 rfl rfl (by rfl) rfl (by kernel_rfl) rfl (by rfl) ?_ ?_ ?_; rotate_left 2; (· intro w1 hg; exact mixed_any (foldF f all k) _ HX.out w1 (hK.up (HO.up hg).below)); (· simp only [Act.put, List.setIfInBounds_toArray, List.set_cons_zero, List.set_cons_succ, kw64, kw32]; rfl))
        | (refine sL (v := ?_) (a' := ?_) rfl rfl (by rfl) ?_ ?_ ?_; rotate_left 2; (· intro w1 hg; skip; (refine Eq.trans (run_load_row 130 (.tmp 5) rfl ga (by rfl) _ (arr8 (foldF f all k)) _ _ ((HO.up hg).blk 0 rfl) Tryd.underlying130 rfl (by kernel_rfl)) ?_; with_reducible rfl)); (· simp only [Act.put, List.setIfInBounds_toArray, List.set_cons_zero, List.set_cons_succ, kw64, kw32]; rfl)))
      refine bone (i := 4) (N := none) #[true, true, true, true, true] rfl rfl (by kernel_rfl) HBS (fun w1 hg K hK => ?_)
      rw [if_pos (by rfl)]
      replace HO := HO.up hg
      refine wp_store_row 130 (.tmp 5) (.tmp 23) rfl ga (arr8 (mixF (foldF f all k) (x.extract 0 64))) (by rfl) (by rfl) _ _ (HO.blk 0 rfl) (by kernel_rfl) (arr8_len _ _) (arr8_one _) ?_
      refine hK _ _ (in_ds (by decide) (bel_setRow (by omega) _)) (fun HBS => ?_)
      replace HO := HO.setRow 0 rfl (arr8 (mixF (foldF f all k) (x.extract 0 64))) (L' := [(ga, .cells (arr8 (mixF (foldF f all k) (x.extract 0 64))) 130 (0, 0)), (w.heap.size + 1, .cells #[.slice none 0 0, .string ⟨#[]⟩, .int .u64 0] 25 (0, 0)), (w.heap.size, .cells #[.slice (some ad) 8 c, .string rest, .int .u64 (m : Int)] 25 (0, 0))]) rfl
      clear hg K hK
      revert HO HBS
      generalize World.setRow w1 _ _ = wb
      intro HBS HO
      refine bdone (by kernel_rfl) (fun w1 hg => ?_)
      replace HO := HO.up hg
      clear hg
      go_wp2
      refine ⟨⟨k + 1, by rw [hdr.out]; rfl, ⟨by omega⟩, ?_⟩, by rw [hdr.out]; exact hms⟩
      rw [hbk.out] at HO
      exact HO
    · have hq : all.size / 64 = k := by have := Hk.out; omega
      have HW := Lib.hid (show foldF f all k = wordsF f all by unfold wordsF; rw [hq])
      have HLf := Lib.hid (show all.extract (64 * k) all.size = leftF all by unfold leftF; rw [hq])
      have hxs := ext_size all (64 * k)
      have h64 : ((all.extract (64 * k) all.size).size : Int) < 64 := by omega
      clear hq hxs
      rw [HW.out] at HO
      rw [HLf.out] at h64
      rw [HLf.out]
      clear HW HLf hlt Hk
      have hwa := wrap_addM m s.size
      have hws := wrap_u64n s.size (by omega)
      go_wp2_with fail
      refine bstart (fun _ => w.heap.size) (n := 10) (ds := [9]) #[false, false, false, false, false, false, false, false, false, false] (by kernel_rfl) rfl rfl HO.below.size (fun HBS => ?_)
      refine bseq (m := 1) (.inl rfl) [(0, true, some 24), (1, true, some 25), (2, true, some 26), (4, true, some 28), (5, true, some 29), (6, true, some 30), (3, false, some 27), (7, true, some 31), (8, true, some 32)] #[true, true, true, true, true, true, true, true, true, false] HBS (by kernel_rfl) rfl (fun _ _ _ _ _ h => h) ?_
      repeat (first
        | (refine sP (v := ?_) (a' := ?_) rfl rfl (by rfl) ?_ ?_ ?_; rotate_left 2; (· intro w'; go_simp; with_reducible rfl); (· simp only [Act.put, List.setIfInBounds_toArray, List.set_cons_zero, List.set_cons_succ, kw64, kw32]; rfl))
        | (refine sL (v := ?_) (a' := ?_) rfl rfl (by rfl) ?_ ?_ ?_; rotate_left 2; (· intro w1 hg; have c0 := (HO.up hg).cell 2 rfl; go_simp; with_reducible rfl); (· simp only [Act.put, List.setIfInBounds_toArray, List.set_cons_zero, List.set_cons_succ, kw64, kw32]; rfl)))
      refine bone (i := 9) (N := none) #[true, true, true, true, true, true, true, true, true, true] rfl rfl (by kernel_rfl) HBS (fun w1 hg K hK => ?_)
      rw [if_pos (by rfl)]
      replace HO := HO.up hg
      have c1 := HO.cell 1 rfl
      have f1 := HO.frozen 1 rfl
      go_simp
      refine hK _ _ (in_ds (by decide) (((bel_set (by omega)).trans (bel_set (by omega))).trans (bel_set (by omega)))) (fun HBS => ?_)
      replace HO := ((HO.set 1 rfl 0 (.slice (some ⟨ga, 0, none⟩) 8 8)).set 1 rfl 1 (.string (leftF all))).set 1 rfl 2 (.int .u64 (addM m s.size : Nat))
      clear c1 f1 hg K hK
      revert HO HBS
      generalize World.setCell (World.setCell _ _ _) _ _ = wb
      intro HBS HO
      refine bdone (by kernel_rfl) (fun w1 hg => ?_)
      replace HO := HO.up hg
      clear hg
      replace HO : Own w [(ga, .cells (arr8 (wordsF f all)) 130 (0, 0)), (w.heap.size + 1, .cells (hashC (some ⟨ga, 0, none⟩) 8 8 (leftF all) (addM m s.size)) 25 (0, 0)), (w.heap.size, .cells #[.slice (some ad) 8 c, .string rest, .int .u64 (m : Int)] 25 (0, 0))] w1 := HO
      go_wp2
      rw [HA.out]
      exact bodyPost_ret (v := hashV (some ⟨ga, 0, none⟩) 8 8 (leftF all) (addM m s.size)) (results_cell_row Tryd.results59 _ _ (w.heap.size + 1) 25 _ (0, 0) _ (by rfl) (HO.blk 1 rfl) Tryd.underlying25 rfl (by kernel_rfl)) rfl ⟨⟨_, hGe, rfl, _, rfl, fun j hj => by
        rw [Addr.add_mid, Nat.zero_add]
        exact (HO.cell 0 rfl j).trans (arr8_get _ j hj)⟩, HO.below⟩
end Go.Proofs.YtpafocjmheemjaaDoor

import Derived.Test.YtdmpnogjpgoaaaaMf
import Derived.Test.YtdmpnogjpgoaaaaMd
set_option linter.unusedSimpArgs false
namespace Go.Proofs.Ytdmpnogjpgoaaaa
open Go.RowKit Go.Shelf Go.Proofs.YtdmpnogjpgoaaaaW.PrintWords Go.Proofs.YtdmpnogjpgoaaaaW.PrintLast Go.Proofs.YtdmpnogjpgoaaaaW.PrintMore
/-- a point's bytes, the highest bit cleared -/
def topL (l : List Nat) : List Nat := l.set 31 (l.getD 31 0 % 128)
def topS (u : ByteArray) : ByteArray := strOfNums (I (topL (bytesOf u)))
theorem topS_size (u : ByteArray) (hk : u.size = 32) : (topS u).size = 32 := by
  unfold topS topL
  rw [strOfNums_size, I_len, List.length_set, bytesOf_len, hk]
def uPt (u : ByteArray) : F25 := Fin.ofNat P25 (leV (topS u))
theorem uPt_T (u : ByteArray) : T (leV (topS u)) = S25 (uPt u) := rfl
/-- what Mult computes -/
def multF (k : ByteArray) (x : F25) : F25 := Ed.out inv25 (Ed.lad c25 x (kbits (clampS k)))
def multS (k u : ByteArray) : ByteArray := S25 (multF k (uPt u))
theorem inv_T (x : F25) : T ((x.val % P25) ^ (P25 - 2)) = S25 (inv25 x) := by
  unfold T S25 inv25
  rw [Nat.mod_eq_of_lt x.isLt, ← pw25_eq]
theorem number0 (w : World) : Calls Try.prog 86 #[.slice none 0 0] w fun e w' => e = .returned (.string (S25 0)) ∧ Below w.heap.size w w' := by
  have := number_any [] (by decide) (by decide) none 0 w (fun h => absurd h (by decide))
  have e : textV (valB []) = S25 0 := by unfold S25; exact congrArg textV (by decide +kernel)
  rw [e] at this
  exact this
theorem number1 (n : Nat) (hn : n < 256) (w : World) (g : Nat) (h : w.heap[g]? = some (.cells #[.int .u8 (n : Nat)] 5 (0, 0))) : Calls Try.prog 86 #[.slice (some ⟨g, 0, none⟩) 1 1] w fun e w' => e = .returned (.string (textV n)) ∧ Below w.heap.size w w' := by
  have := number_any [n] (show 1 ≤ 32 by decide) (by simpa using hn) (some ⟨g, 0, none⟩) 1 w (fun _ => ⟨g, rfl, h⟩)
  exact this
theorem text_1 : textV 1 = S25 1 := by unfold S25; exact congrArg textV (by decide +kernel)
theorem text_9 : textV 9 = S25 9 := by unfold S25; exact congrArg textV (by decide +kernel)
/-- A store beside the listed blocks. -/
theorem Own.far {w0 w : World} {L : List (Nat × Obj)} (h : Own w0 L w) {g j : Nat} (v : Value) (hge : w0.heap.size ≤ g) (hne : ∀ q ∈ L, q.1 ≠ g) : Own w0 L (w.setCell ⟨g, j, none⟩ v) :=
  ⟨below_set h.below hge, fun q hq => by
    have := h.mem q hq
    exact ⟨(Below.heap_setCell w _ v q.1 (hne q hq)).trans this.1, this.2⟩, h.nd⟩
theorem Own.from {β : Type} {w0 : World} {L : β → List (Nat × Obj)} {B : Nat} (hB : w0.heap.size ≤ B) (hc : ∀ s, ∀ p ∈ L s, p.2.isCells = true) : OwnFrom B (fun s W => Own w0 (L s) W) := by
  intro s W W' row hs hg hr
  refine ⟨hs.below.grown hg hs.below.size (fun k e => by have := (hr k e).1; omega), fun p hp => ?_, hs.nd⟩
  have hm := hs.mem p hp
  refine ⟨(hg.block p.1 (Array.getElem?_eq_some_iff.1 hm.1).1 (fun e => ?_)).trans hm.1, hm.2⟩
  obtain ⟨_, _, ho, hoc⟩ := hr p.1 e.symm
  rw [hm.1] at ho
  cases ho
  rw [hc s p hp] at hoc
  cases hoc
theorem KeepsOthers.ofGr {W W' : World} (h : Gr W W') : KeepsOthers W W' := ⟨Below.size h, fun k _ hk _ => (h.block k (Array.getElem?_eq_some_iff.1 hk).1).trans hk⟩
theorem keeps_set4 {W W' : World} (h : KeepsOthers W W') (p q r s : Addr) (a b c d : Value) : KeepsOthers W ((((W'.setCell p a).setCell q b).setCell r c).setCell s d) :=
  (((h.trans (KeepsOthers.setCell _ _ _)).trans (KeepsOthers.setCell _ _ _)).trans (KeepsOthers.setCell _ _ _)).trans (KeepsOthers.setCell _ _ _)
def rungC (s : Ed.St P25) : Array Value := #[.string (S25 s.x2), .string (S25 s.z2), .string (S25 s.x3), .string (S25 s.z3)]
attribute [local irreducible] Calls
attribute [local irreducible] CallsIn
attribute [local go_sem] Oper.semAt_some
set_option maxHeartbeats 4000000 in
set_option maxRecDepth 100000 in
theorem Mult_any (k u : ByteArray) (hk : k.size = 32) (hu : u.size = 32) (w : World) :
    Calls Try.prog 48 #[.string k, .string u] w fun e w' => e = .returned (.tuple #[.string (multS k u), .int .i64 0]) ∧ Below w.heap.size w w' := by
  have h1 : ((k.size : Int) != 32) = false := by rw [hk]; rfl
  have h2 : ((u.size : Int) != 32) = false := by rw [hu]; rfl
  have hu94 := Try.underlying94
  have hlen : (bytesOf u).length = 32 := by rw [bytesOf_len, hu]
  have hlt := bytesOf_lt u
  have hres : topS u = strOfNums (I ((bytesOf u).set 31 ((bytesOf u).getD 31 0 % 128))) := rfl
  obtain ⟨b31, h31⟩ : ∃ n, (bytesOf u)[31]? = some n := ⟨_, List.getElem?_eq_getElem (by omega)⟩
  have l31 := hlt b31 (List.mem_of_getElem? h31)
  rw [List.getD_eq_getElem?_getD, h31, Option.getD_some] at hres
  have e2 := and127 b31 l31
  have H31 := Lib.hid h31
  have HRes := Lib.hid hres
  have HLen := Lib.hid hlen
  have HN := Lib.hid (fun W => NormT W (s := topS u) (x := leV (topS u)) ⟨topS_size u hu, rfl⟩)
  have HC := Lib.hid (clamp_any k hk)
  have HO := (Own.start w).alloc (.cells #[.string u] 9)
  have hk0 := hk
  clear hres h31 hlt hk hu l31 hlen
  have hks := clampS_size k hk0
  refine (callsIn_wide (n := 9)).1 (callsIn_of_wp_marks Try.func48 rfl trivial (wpIn_wide.2 ?_) rfl)
  simp only [Try.ntmps48, List.size_toArray, List.length_cons, List.length_nil, Nat.reduceAdd, Nat.reduceSub, Array.replicate_succ, Array.replicate_zero, List.push_toArray, List.append_toArray, List.nil_append, List.cons_append]
  go_wp2_with (first | ((with_reducible refine wpList_bytes rfl (.tmp 19) rfl u rfl ?_); intro g c w1 hg HR hb; rw [HLen.out]; replace HO := HO.up hb; have c31 := HR.cell H31.out; have f31 := HR.frozen (j := 31) (by rw [HLen.out]; omega); have Hg := Aside0.mk (show g = w.heap.size + 1 by rw [hg]; simp); clear hg) | (go_at_call 18; refine (HN.out _).mono ?_; rintro e w1 ⟨rfl, hb⟩))
  have hs2 : ((bytesOf u).set 31 (b31 % 128)).length = 32 := by rw [List.length_set, HLen.out]
  have hcv := (HR.set 31 (b31 % 128) (by rw [HLen.out]; omega)).conv (by rw [hs2]; omega) c
  rw [hs2, ← HRes.out, show ((b31 % 128 : Nat) : Int) = (b31 : Int) % 128 by omega] at hcv
  rw [hcv]
  replace HO := HO.far (g := g) (j := 31) (.int .u8 ((b31 : Int) % 128)) (by rw [Hg.out]; omega) (by simp [Hg.out])
  clear hcv c31 f31 HR hb HRes H31
  go_wp2_with (go_at_call 18; refine (HN.out _).mono ?_; rintro e w1 ⟨rfl, hb⟩; replace HO := HO.up hb; clear hb; have c0 := HO.cell 0 rfl; have f0 := HO.frozen 0 rfl)
  replace HO := HO.set 0 rfl 0 (.string (S25 (uPt u)))
  clear c0 f0
  refine wp_cutS (fun a' W => ∃ g7 x1 x2 x4 x5 x6 x8 x9 x10 x11 x12 x13 x14 x15 x16 x17 x18 x19 x20 x21 x22 x23 x24 x25 x26 x27 x28 x29 x30 x31 x32 x33 x34 x35 x36 x37 x38 x39 x40 x41 x42 x43 x44 x45 x46 x47 x48 x49 x50 x51 x52 x53 x54 x55 x56 x57 x58 x59, a' = { tmps := List.toArray (.string k :: x1 :: x2 :: .pointer (some ⟨w.heap.size, 0, none⟩) :: x4 :: x5 :: x6 :: .pointer (some ⟨g7, 0, none⟩) :: x8 :: x9 :: x10 :: x11 :: x12 :: x13 :: x14 :: x15 :: x16 :: x17 :: x18 :: x19 :: x20 :: x21 :: x22 :: x23 :: x24 :: x25 :: x26 :: x27 :: x28 :: x29 :: x30 :: x31 :: x32 :: x33 :: x34 :: x35 :: x36 :: x37 :: x38 :: x39 :: x40 :: x41 :: x42 :: x43 :: x44 :: x45 :: x46 :: x47 :: x48 :: x49 :: x50 :: x51 :: x52 :: x53 :: x54 :: x55 :: x56 :: x57 :: x58 :: x59 :: []), defers := [] } ∧ Own w [(g7, .cells #[.string (S25 1), .string (S25 0), .string (S25 (uPt u)), .string (S25 1)] 94 (0, 0)), (w.heap.size, .cells #[.string (S25 (uPt u))] 9 (0, 0))] W) ?region ?rest
  case region =>
    intro M' hM'
    refine kstart (n := 9) (ds := [8]) #[false, false, false, false, false, false, false, false, false] (by kernel_rfl) rfl rfl ?_
    refine ktake (i := 3) (N := (some 35)) (v := ?_) (a' := ?_) #[false, false, false, true, false, false, false, false, false] rfl rfl (by kernel_rfl) (fun _ _ _ h => h) (Or.inl ⟨by rfl, fun w1 hg => ?_⟩) ?_ ?_  -- 3 load 9 (tmp 3)
    rotate_left
    · refine RunG_value ?_; have c0 := (HO.up hg).cell 0 rfl; go_simp; with_reducible rfl
    rotate_left
    · simp only [Act.put, List.setIfInBounds_toArray, List.set_cons_zero, List.set_cons_succ, i64_w, i32_w]; rfl
    refine kthree (i := 0) (j := 4) (k := 7) (N := (some 32)) (M := (some 36)) (O := (some 7)) #[true, false, false, true, false, false, false, false, false] #[false, false, false, true, true, false, false, false, false] #[false, false, false, true, false, false, false, true, false] rfl rfl rfl rfl rfl rfl (by kernel_rfl) ?_ ?_ ?_
    · intro w1 hg K hK  -- 0 buildSlice 63 1 #[(0, const (int u8 1))]
      rw [if_pos (by rfl)]
      replace HO := HO.up hg
      replace hK := Shut.mk hK
      go_simp
      refine hK.out _ _ (fun _ => below_alloc (Below.refl _ _) _) ?_
      replace HO := HO.alloc (.cells #[.int .u8 1] 5)
      clear hg K hK
      generalize hwa : w1.alloc (.cells #[.int .u8 1] 5) = wa at *
      generalize hga : w1.heap.size = g0 at *
      clear hwa hga w1
      refine ktake (i := 1) (N := (some 33)) (v := .string (textV 1)) (a' := ?_) #[true, true, false, true, false, false, false, false, false] rfl rfl (by kernel_rfl) (fun _ _ _ h => h) (Or.inl ⟨by rfl, fun w1 hg => RunG_call Try.func86 (by kernel_rfl) rfl [.slice (some ⟨g0, 0, none⟩) 1 1] rfl (by rfl) (number1 1 (by decide) _ _ ((HO.up hg).blk 0 rfl))⟩) ?_ ?_  -- 1 call { callee := value (func 86), args := #[tmp 32], argTypes := #[63] }
      rotate_left
      · simp only [Act.put, List.setIfInBounds_toArray, List.set_cons_zero, List.set_cons_succ, i64_w, i32_w]; rfl
      refine ktake (i := 2) (N := (some 34)) (v := .string (S25 0)) (a' := ?_) #[true, true, true, true, false, false, false, false, false] rfl rfl (by kernel_rfl) (fun _ _ _ h => h) (Or.inl ⟨by rfl, fun w1 hg => RunG_call Try.func86 (by kernel_rfl) rfl [.slice none 0 0] rfl (by rfl) (number0 _)⟩) ?_ ?_  -- 2 call { callee := value (func 86), args := #[const (slice none 0 0)], argTypes := #[63] }
      rotate_left
      · simp only [Act.put, List.setIfInBounds_toArray, List.set_cons_zero, List.set_cons_succ, i64_w, i32_w]; rfl
      refine ktwo (i := 4) (j := 7) (N := (some 36)) (M := (some 7)) #[true, true, true, true, true, false, false, false, false] #[true, true, true, true, false, false, false, true, false] rfl rfl rfl rfl (by kernel_rfl) ?_ ?_
      · intro w1 hg K hK  -- 4 buildSlice 63 1 #[(0, const (int u8 1))]
        rw [if_pos (by rfl)]
        replace HO := HO.up hg
        replace hK := Shut.mk hK
        go_simp
        refine hK.out _ _ (fun _ => below_alloc (Below.refl _ _) _) ?_
        replace HO := HO.alloc (.cells #[.int .u8 1] 5)
        clear hg K hK
        generalize hwa : w1.alloc (.cells #[.int .u8 1] 5) = wa at *
        generalize hga : w1.heap.size = g4 at *
        clear hwa hga w1
        refine ktake (i := 5) (N := (some 37)) (v := .string (textV 1)) (a' := ?_) #[true, true, true, true, true, true, false, false, false] rfl rfl (by kernel_rfl) (fun _ _ _ h => h) (Or.inl ⟨by rfl, fun w1 hg => RunG_call Try.func86 (by kernel_rfl) rfl [.slice (some ⟨g4, 0, none⟩) 1 1] rfl (by rfl) (number1 1 (by decide) _ _ ((HO.up hg).blk 0 rfl))⟩) ?_ ?_  -- 5 call { callee := value (func 86), args := #[tmp 36], argTypes := #[63] }
        rotate_left
        · simp only [Act.put, List.setIfInBounds_toArray, List.set_cons_zero, List.set_cons_succ, i64_w, i32_w]; rfl
        refine kpure (i := 6) (N := (some 38)) (v := ?_) (a' := ?_) #[true, true, true, true, true, true, true, false, false] rfl rfl (by kernel_rfl) (fun _ _ _ h => h) (Or.inl ⟨by rfl, ?_⟩) ?_ ?_  -- 6 build 94 #[(0, tmp 33), (1, tmp 34), (2, tmp 35), (3, tmp 37)]
        rotate_left
        · intro w'; go_simp; with_reducible rfl
        rotate_left
        · simp only [Act.put, List.setIfInBounds_toArray, List.set_cons_zero, List.set_cons_succ, i64_w, i32_w]; rfl
        refine kone (i := 7) (N := (some 7)) #[true, true, true, true, true, true, true, true, false] rfl rfl (by kernel_rfl) (fun w1 hg K hK => ?_)  -- 7 alloc 94
        rw [if_pos (by rfl)]
        replace HO := HO.up hg
        replace hK := Shut.mk hK
        go_simp
        refine hK.out _ _ (fun _ => below_alloc (Below.refl _ _) _) ?_
        replace HO := HO.alloc (.cells #[.string ⟨#[]⟩, .string ⟨#[]⟩, .string ⟨#[]⟩, .string ⟨#[]⟩] 94)
        clear hg K hK
        generalize hwa : w1.alloc (.cells #[.string ⟨#[]⟩, .string ⟨#[]⟩, .string ⟨#[]⟩, .string ⟨#[]⟩] 94) = wa at *
        generalize hga : w1.heap.size = g7 at *
        clear hwa hga w1
        refine kone (i := 8) (N := none) #[true, true, true, true, true, true, true, true, true] rfl rfl (by kernel_rfl) (fun w1 hg K hK => ?_)  -- 8 store 94 (tmp 7) (tmp 38)
        rw [if_pos (by rfl)]
        replace HO := HO.up hg
        have c1 := HO.cell 0 rfl
        have f1 := HO.frozen 0 rfl
        go_simp
        refine hK _ _ (fun h => absurd (by decide) h) ?_
        replace HO := (((HO.set 0 rfl 0 (.string (textV 1))).set 0 rfl 1 (.string (S25 0))).set 0 rfl 2 (.string (S25 (uPt u)))).set 0 rfl 3 (.string (textV 1))
        clear c1 f1 hg K hK
        refine kdone (by kernel_rfl) (fun w1 hg => ?_)
        replace HO := HO.up hg
        rw [text_1] at HO
        exact hM'.out _ _ ⟨g7, _, _, _, _, _, _, _, _, _, _, _, _, _, _, _, _, _, _, _, _, _, _, _, _, _, _, _, _, _, _, _, _, _, _, _, _, _, _, _, _, _, _, _, _, _, _, _, _, _, _, _, _, _, _, _, _, _,  rfl, HO.drop _ (.cons_cons _ (.cons _ (.cons _ (.cons_cons _ (.slnil)))))⟩
      · intro w1 hg K hK  -- 7 alloc 94
        rw [if_pos (by rfl)]
        replace HO := HO.up hg
        replace hK := Shut.mk hK
        go_simp
        refine hK.out _ _ (fun _ => below_alloc (Below.refl _ _) _) ?_
        replace HO := HO.alloc (.cells #[.string ⟨#[]⟩, .string ⟨#[]⟩, .string ⟨#[]⟩, .string ⟨#[]⟩] 94)
        clear hg K hK
        generalize hwa : w1.alloc (.cells #[.string ⟨#[]⟩, .string ⟨#[]⟩, .string ⟨#[]⟩, .string ⟨#[]⟩] 94) = wa at *
        generalize hga : w1.heap.size = g7 at *
        clear hwa hga w1
        refine kone (i := 4) (N := (some 36)) #[true, true, true, true, true, false, false, true, false] rfl rfl (by kernel_rfl) (fun w1 hg K hK => ?_)  -- 4 buildSlice 63 1 #[(0, const (int u8 1))]
        rw [if_pos (by rfl)]
        replace HO := HO.up hg
        replace hK := Shut.mk hK
        go_simp
        refine hK.out _ _ (fun _ => below_alloc (Below.refl _ _) _) ?_
        replace HO := HO.alloc (.cells #[.int .u8 1] 5)
        clear hg K hK
        generalize hwa : w1.alloc (.cells #[.int .u8 1] 5) = wa at *
        generalize hga : w1.heap.size = g4 at *
        clear hwa hga w1
        refine ktake (i := 5) (N := (some 37)) (v := .string (textV 1)) (a' := ?_) #[true, true, true, true, true, true, false, true, false] rfl rfl (by kernel_rfl) (fun _ _ _ h => h) (Or.inl ⟨by rfl, fun w1 hg => RunG_call Try.func86 (by kernel_rfl) rfl [.slice (some ⟨g4, 0, none⟩) 1 1] rfl (by rfl) (number1 1 (by decide) _ _ ((HO.up hg).blk 0 rfl))⟩) ?_ ?_  -- 5 call { callee := value (func 86), args := #[tmp 36], argTypes := #[63] }
        rotate_left
        · simp only [Act.put, List.setIfInBounds_toArray, List.set_cons_zero, List.set_cons_succ, i64_w, i32_w]; rfl
        refine kpure (i := 6) (N := (some 38)) (v := ?_) (a' := ?_) #[true, true, true, true, true, true, true, true, false] rfl rfl (by kernel_rfl) (fun _ _ _ h => h) (Or.inl ⟨by rfl, ?_⟩) ?_ ?_  -- 6 build 94 #[(0, tmp 33), (1, tmp 34), (2, tmp 35), (3, tmp 37)]
        rotate_left
        · intro w'; go_simp; with_reducible rfl
        rotate_left
        · simp only [Act.put, List.setIfInBounds_toArray, List.set_cons_zero, List.set_cons_succ, i64_w, i32_w]; rfl
        refine kone (i := 8) (N := none) #[true, true, true, true, true, true, true, true, true] rfl rfl (by kernel_rfl) (fun w1 hg K hK => ?_)  -- 8 store 94 (tmp 7) (tmp 38)
        rw [if_pos (by rfl)]
        replace HO := HO.up hg
        have c1 := HO.cell 1 rfl
        have f1 := HO.frozen 1 rfl
        go_simp
        refine hK _ _ (fun h => absurd (by decide) h) ?_
        replace HO := (((HO.set 1 rfl 0 (.string (textV 1))).set 1 rfl 1 (.string (S25 0))).set 1 rfl 2 (.string (S25 (uPt u)))).set 1 rfl 3 (.string (textV 1))
        clear c1 f1 hg K hK
        refine kdone (by kernel_rfl) (fun w1 hg => ?_)
        replace HO := HO.up hg
        rw [text_1] at HO
        exact hM'.out _ _ ⟨g7, _, _, _, _, _, _, _, _, _, _, _, _, _, _, _, _, _, _, _, _, _, _, _, _, _, _, _, _, _, _, _, _, _, _, _, _, _, _, _, _, _, _, _, _, _, _, _, _, _, _, _, _, _, _, _, _, _,  rfl, HO.drop _ (.cons _ (.cons_cons _ (.cons _ (.cons_cons _ (.slnil)))))⟩
    · intro w1 hg K hK  -- 4 buildSlice 63 1 #[(0, const (int u8 1))]
      rw [if_pos (by rfl)]
      replace HO := HO.up hg
      replace hK := Shut.mk hK
      go_simp
      refine hK.out _ _ (fun _ => below_alloc (Below.refl _ _) _) ?_
      replace HO := HO.alloc (.cells #[.int .u8 1] 5)
      clear hg K hK
      generalize hwa : w1.alloc (.cells #[.int .u8 1] 5) = wa at *
      generalize hga : w1.heap.size = g4 at *
      clear hwa hga w1
      refine ktwo (i := 0) (j := 7) (N := (some 32)) (M := (some 7)) #[true, false, false, true, true, false, false, false, false] #[false, false, false, true, true, false, false, true, false] rfl rfl rfl rfl (by kernel_rfl) ?_ ?_
      · intro w1 hg K hK  -- 0 buildSlice 63 1 #[(0, const (int u8 1))]
        rw [if_pos (by rfl)]
        replace HO := HO.up hg
        replace hK := Shut.mk hK
        go_simp
        refine hK.out _ _ (fun _ => below_alloc (Below.refl _ _) _) ?_
        replace HO := HO.alloc (.cells #[.int .u8 1] 5)
        clear hg K hK
        generalize hwa : w1.alloc (.cells #[.int .u8 1] 5) = wa at *
        generalize hga : w1.heap.size = g0 at *
        clear hwa hga w1
        refine ktake (i := 1) (N := (some 33)) (v := .string (textV 1)) (a' := ?_) #[true, true, false, true, true, false, false, false, false] rfl rfl (by kernel_rfl) (fun _ _ _ h => h) (Or.inl ⟨by rfl, fun w1 hg => RunG_call Try.func86 (by kernel_rfl) rfl [.slice (some ⟨g0, 0, none⟩) 1 1] rfl (by rfl) (number1 1 (by decide) _ _ ((HO.up hg).blk 0 rfl))⟩) ?_ ?_  -- 1 call { callee := value (func 86), args := #[tmp 32], argTypes := #[63] }
        rotate_left
        · simp only [Act.put, List.setIfInBounds_toArray, List.set_cons_zero, List.set_cons_succ, i64_w, i32_w]; rfl
        refine ktake (i := 2) (N := (some 34)) (v := .string (S25 0)) (a' := ?_) #[true, true, true, true, true, false, false, false, false] rfl rfl (by kernel_rfl) (fun _ _ _ h => h) (Or.inl ⟨by rfl, fun w1 hg => RunG_call Try.func86 (by kernel_rfl) rfl [.slice none 0 0] rfl (by rfl) (number0 _)⟩) ?_ ?_  -- 2 call { callee := value (func 86), args := #[const (slice none 0 0)], argTypes := #[63] }
        rotate_left
        · simp only [Act.put, List.setIfInBounds_toArray, List.set_cons_zero, List.set_cons_succ, i64_w, i32_w]; rfl
        refine ktake (i := 5) (N := (some 37)) (v := .string (textV 1)) (a' := ?_) #[true, true, true, true, true, true, false, false, false] rfl rfl (by kernel_rfl) (fun _ _ _ h => h) (Or.inl ⟨by rfl, fun w1 hg => RunG_call Try.func86 (by kernel_rfl) rfl [.slice (some ⟨g4, 0, none⟩) 1 1] rfl (by rfl) (number1 1 (by decide) _ _ ((HO.up hg).blk 1 rfl))⟩) ?_ ?_  -- 5 call { callee := value (func 86), args := #[tmp 36], argTypes := #[63] }
        rotate_left
        · simp only [Act.put, List.setIfInBounds_toArray, List.set_cons_zero, List.set_cons_succ, i64_w, i32_w]; rfl
        refine kpure (i := 6) (N := (some 38)) (v := ?_) (a' := ?_) #[true, true, true, true, true, true, true, false, false] rfl rfl (by kernel_rfl) (fun _ _ _ h => h) (Or.inl ⟨by rfl, ?_⟩) ?_ ?_  -- 6 build 94 #[(0, tmp 33), (1, tmp 34), (2, tmp 35), (3, tmp 37)]
        rotate_left
        · intro w'; go_simp; with_reducible rfl
        rotate_left
        · simp only [Act.put, List.setIfInBounds_toArray, List.set_cons_zero, List.set_cons_succ, i64_w, i32_w]; rfl
        refine kone (i := 7) (N := (some 7)) #[true, true, true, true, true, true, true, true, false] rfl rfl (by kernel_rfl) (fun w1 hg K hK => ?_)  -- 7 alloc 94
        rw [if_pos (by rfl)]
        replace HO := HO.up hg
        replace hK := Shut.mk hK
        go_simp
        refine hK.out _ _ (fun _ => below_alloc (Below.refl _ _) _) ?_
        replace HO := HO.alloc (.cells #[.string ⟨#[]⟩, .string ⟨#[]⟩, .string ⟨#[]⟩, .string ⟨#[]⟩] 94)
        clear hg K hK
        generalize hwa : w1.alloc (.cells #[.string ⟨#[]⟩, .string ⟨#[]⟩, .string ⟨#[]⟩, .string ⟨#[]⟩] 94) = wa at *
        generalize hga : w1.heap.size = g7 at *
        clear hwa hga w1
        refine kone (i := 8) (N := none) #[true, true, true, true, true, true, true, true, true] rfl rfl (by kernel_rfl) (fun w1 hg K hK => ?_)  -- 8 store 94 (tmp 7) (tmp 38)
        rw [if_pos (by rfl)]
        replace HO := HO.up hg
        have c1 := HO.cell 0 rfl
        have f1 := HO.frozen 0 rfl
        go_simp
        refine hK _ _ (fun h => absurd (by decide) h) ?_
        replace HO := (((HO.set 0 rfl 0 (.string (textV 1))).set 0 rfl 1 (.string (S25 0))).set 0 rfl 2 (.string (S25 (uPt u)))).set 0 rfl 3 (.string (textV 1))
        clear c1 f1 hg K hK
        refine kdone (by kernel_rfl) (fun w1 hg => ?_)
        replace HO := HO.up hg
        rw [text_1] at HO
        exact hM'.out _ _ ⟨g7, _, _, _, _, _, _, _, _, _, _, _, _, _, _, _, _, _, _, _, _, _, _, _, _, _, _, _, _, _, _, _, _, _, _, _, _, _, _, _, _, _, _, _, _, _, _, _, _, _, _, _, _, _, _, _, _, _,  rfl, HO.drop _ (.cons_cons _ (.cons _ (.cons _ (.cons_cons _ (.slnil)))))⟩
      · intro w1 hg K hK  -- 7 alloc 94
        rw [if_pos (by rfl)]
        replace HO := HO.up hg
        replace hK := Shut.mk hK
        go_simp
        refine hK.out _ _ (fun _ => below_alloc (Below.refl _ _) _) ?_
        replace HO := HO.alloc (.cells #[.string ⟨#[]⟩, .string ⟨#[]⟩, .string ⟨#[]⟩, .string ⟨#[]⟩] 94)
        clear hg K hK
        generalize hwa : w1.alloc (.cells #[.string ⟨#[]⟩, .string ⟨#[]⟩, .string ⟨#[]⟩, .string ⟨#[]⟩] 94) = wa at *
        generalize hga : w1.heap.size = g7 at *
        clear hwa hga w1
        refine kone (i := 0) (N := (some 32)) #[true, false, false, true, true, false, false, true, false] rfl rfl (by kernel_rfl) (fun w1 hg K hK => ?_)  -- 0 buildSlice 63 1 #[(0, const (int u8 1))]
        rw [if_pos (by rfl)]
        replace HO := HO.up hg
        replace hK := Shut.mk hK
        go_simp
        refine hK.out _ _ (fun _ => below_alloc (Below.refl _ _) _) ?_
        replace HO := HO.alloc (.cells #[.int .u8 1] 5)
        clear hg K hK
        generalize hwa : w1.alloc (.cells #[.int .u8 1] 5) = wa at *
        generalize hga : w1.heap.size = g0 at *
        clear hwa hga w1
        refine ktake (i := 1) (N := (some 33)) (v := .string (textV 1)) (a' := ?_) #[true, true, false, true, true, false, false, true, false] rfl rfl (by kernel_rfl) (fun _ _ _ h => h) (Or.inl ⟨by rfl, fun w1 hg => RunG_call Try.func86 (by kernel_rfl) rfl [.slice (some ⟨g0, 0, none⟩) 1 1] rfl (by rfl) (number1 1 (by decide) _ _ ((HO.up hg).blk 0 rfl))⟩) ?_ ?_  -- 1 call { callee := value (func 86), args := #[tmp 32], argTypes := #[63] }
        rotate_left
        · simp only [Act.put, List.setIfInBounds_toArray, List.set_cons_zero, List.set_cons_succ, i64_w, i32_w]; rfl
        refine ktake (i := 2) (N := (some 34)) (v := .string (S25 0)) (a' := ?_) #[true, true, true, true, true, false, false, true, false] rfl rfl (by kernel_rfl) (fun _ _ _ h => h) (Or.inl ⟨by rfl, fun w1 hg => RunG_call Try.func86 (by kernel_rfl) rfl [.slice none 0 0] rfl (by rfl) (number0 _)⟩) ?_ ?_  -- 2 call { callee := value (func 86), args := #[const (slice none 0 0)], argTypes := #[63] }
        rotate_left
        · simp only [Act.put, List.setIfInBounds_toArray, List.set_cons_zero, List.set_cons_succ, i64_w, i32_w]; rfl
        refine ktake (i := 5) (N := (some 37)) (v := .string (textV 1)) (a' := ?_) #[true, true, true, true, true, true, false, true, false] rfl rfl (by kernel_rfl) (fun _ _ _ h => h) (Or.inl ⟨by rfl, fun w1 hg => RunG_call Try.func86 (by kernel_rfl) rfl [.slice (some ⟨g4, 0, none⟩) 1 1] rfl (by rfl) (number1 1 (by decide) _ _ ((HO.up hg).blk 2 rfl))⟩) ?_ ?_  -- 5 call { callee := value (func 86), args := #[tmp 36], argTypes := #[63] }
        rotate_left
        · simp only [Act.put, List.setIfInBounds_toArray, List.set_cons_zero, List.set_cons_succ, i64_w, i32_w]; rfl
        refine kpure (i := 6) (N := (some 38)) (v := ?_) (a' := ?_) #[true, true, true, true, true, true, true, true, false] rfl rfl (by kernel_rfl) (fun _ _ _ h => h) (Or.inl ⟨by rfl, ?_⟩) ?_ ?_  -- 6 build 94 #[(0, tmp 33), (1, tmp 34), (2, tmp 35), (3, tmp 37)]
        rotate_left
        · intro w'; go_simp; with_reducible rfl
        rotate_left
        · simp only [Act.put, List.setIfInBounds_toArray, List.set_cons_zero, List.set_cons_succ, i64_w, i32_w]; rfl
        refine kone (i := 8) (N := none) #[true, true, true, true, true, true, true, true, true] rfl rfl (by kernel_rfl) (fun w1 hg K hK => ?_)  -- 8 store 94 (tmp 7) (tmp 38)
        rw [if_pos (by rfl)]
        replace HO := HO.up hg
        have c1 := HO.cell 1 rfl
        have f1 := HO.frozen 1 rfl
        go_simp
        refine hK _ _ (fun h => absurd (by decide) h) ?_
        replace HO := (((HO.set 1 rfl 0 (.string (textV 1))).set 1 rfl 1 (.string (S25 0))).set 1 rfl 2 (.string (S25 (uPt u)))).set 1 rfl 3 (.string (textV 1))
        clear c1 f1 hg K hK
        refine kdone (by kernel_rfl) (fun w1 hg => ?_)
        replace HO := HO.up hg
        rw [text_1] at HO
        exact hM'.out _ _ ⟨g7, _, _, _, _, _, _, _, _, _, _, _, _, _, _, _, _, _, _, _, _, _, _, _, _, _, _, _, _, _, _, _, _, _, _, _, _, _, _, _, _, _, _, _, _, _, _, _, _, _, _, _, _, _, _, _, _, _,  rfl, HO.drop _ (.cons _ (.cons_cons _ (.cons _ (.cons_cons _ (.slnil)))))⟩
    · intro w1 hg K hK  -- 7 alloc 94
      rw [if_pos (by rfl)]
      replace HO := HO.up hg
      replace hK := Shut.mk hK
      go_simp
      refine hK.out _ _ (fun _ => below_alloc (Below.refl _ _) _) ?_
      replace HO := HO.alloc (.cells #[.string ⟨#[]⟩, .string ⟨#[]⟩, .string ⟨#[]⟩, .string ⟨#[]⟩] 94)
      clear hg K hK
      generalize hwa : w1.alloc (.cells #[.string ⟨#[]⟩, .string ⟨#[]⟩, .string ⟨#[]⟩, .string ⟨#[]⟩] 94) = wa at *
      generalize hga : w1.heap.size = g7 at *
      clear hwa hga w1
      refine ktwo (i := 0) (j := 4) (N := (some 32)) (M := (some 36)) #[true, false, false, true, false, false, false, true, false] #[false, false, false, true, true, false, false, true, false] rfl rfl rfl rfl (by kernel_rfl) ?_ ?_
      · intro w1 hg K hK  -- 0 buildSlice 63 1 #[(0, const (int u8 1))]
        rw [if_pos (by rfl)]
        replace HO := HO.up hg
        replace hK := Shut.mk hK
        go_simp
        refine hK.out _ _ (fun _ => below_alloc (Below.refl _ _) _) ?_
        replace HO := HO.alloc (.cells #[.int .u8 1] 5)
        clear hg K hK
        generalize hwa : w1.alloc (.cells #[.int .u8 1] 5) = wa at *
        generalize hga : w1.heap.size = g0 at *
        clear hwa hga w1
        refine ktake (i := 1) (N := (some 33)) (v := .string (textV 1)) (a' := ?_) #[true, true, false, true, false, false, false, true, false] rfl rfl (by kernel_rfl) (fun _ _ _ h => h) (Or.inl ⟨by rfl, fun w1 hg => RunG_call Try.func86 (by kernel_rfl) rfl [.slice (some ⟨g0, 0, none⟩) 1 1] rfl (by rfl) (number1 1 (by decide) _ _ ((HO.up hg).blk 0 rfl))⟩) ?_ ?_  -- 1 call { callee := value (func 86), args := #[tmp 32], argTypes := #[63] }
        rotate_left
        · simp only [Act.put, List.setIfInBounds_toArray, List.set_cons_zero, List.set_cons_succ, i64_w, i32_w]; rfl
        refine ktake (i := 2) (N := (some 34)) (v := .string (S25 0)) (a' := ?_) #[true, true, true, true, false, false, false, true, false] rfl rfl (by kernel_rfl) (fun _ _ _ h => h) (Or.inl ⟨by rfl, fun w1 hg => RunG_call Try.func86 (by kernel_rfl) rfl [.slice none 0 0] rfl (by rfl) (number0 _)⟩) ?_ ?_  -- 2 call { callee := value (func 86), args := #[const (slice none 0 0)], argTypes := #[63] }
        rotate_left
        · simp only [Act.put, List.setIfInBounds_toArray, List.set_cons_zero, List.set_cons_succ, i64_w, i32_w]; rfl
        refine kone (i := 4) (N := (some 36)) #[true, true, true, true, true, false, false, true, false] rfl rfl (by kernel_rfl) (fun w1 hg K hK => ?_)  -- 4 buildSlice 63 1 #[(0, const (int u8 1))]
        rw [if_pos (by rfl)]
        replace HO := HO.up hg
        replace hK := Shut.mk hK
        go_simp
        refine hK.out _ _ (fun _ => below_alloc (Below.refl _ _) _) ?_
        replace HO := HO.alloc (.cells #[.int .u8 1] 5)
        clear hg K hK
        generalize hwa : w1.alloc (.cells #[.int .u8 1] 5) = wa at *
        generalize hga : w1.heap.size = g4 at *
        clear hwa hga w1
        refine ktake (i := 5) (N := (some 37)) (v := .string (textV 1)) (a' := ?_) #[true, true, true, true, true, true, false, true, false] rfl rfl (by kernel_rfl) (fun _ _ _ h => h) (Or.inl ⟨by rfl, fun w1 hg => RunG_call Try.func86 (by kernel_rfl) rfl [.slice (some ⟨g4, 0, none⟩) 1 1] rfl (by rfl) (number1 1 (by decide) _ _ ((HO.up hg).blk 0 rfl))⟩) ?_ ?_  -- 5 call { callee := value (func 86), args := #[tmp 36], argTypes := #[63] }
        rotate_left
        · simp only [Act.put, List.setIfInBounds_toArray, List.set_cons_zero, List.set_cons_succ, i64_w, i32_w]; rfl
        refine kpure (i := 6) (N := (some 38)) (v := ?_) (a' := ?_) #[true, true, true, true, true, true, true, true, false] rfl rfl (by kernel_rfl) (fun _ _ _ h => h) (Or.inl ⟨by rfl, ?_⟩) ?_ ?_  -- 6 build 94 #[(0, tmp 33), (1, tmp 34), (2, tmp 35), (3, tmp 37)]
        rotate_left
        · intro w'; go_simp; with_reducible rfl
        rotate_left
        · simp only [Act.put, List.setIfInBounds_toArray, List.set_cons_zero, List.set_cons_succ, i64_w, i32_w]; rfl
        refine kone (i := 8) (N := none) #[true, true, true, true, true, true, true, true, true] rfl rfl (by kernel_rfl) (fun w1 hg K hK => ?_)  -- 8 store 94 (tmp 7) (tmp 38)
        rw [if_pos (by rfl)]
        replace HO := HO.up hg
        have c1 := HO.cell 2 rfl
        have f1 := HO.frozen 2 rfl
        go_simp
        refine hK _ _ (fun h => absurd (by decide) h) ?_
        replace HO := (((HO.set 2 rfl 0 (.string (textV 1))).set 2 rfl 1 (.string (S25 0))).set 2 rfl 2 (.string (S25 (uPt u)))).set 2 rfl 3 (.string (textV 1))
        clear c1 f1 hg K hK
        refine kdone (by kernel_rfl) (fun w1 hg => ?_)
        replace HO := HO.up hg
        rw [text_1] at HO
        exact hM'.out _ _ ⟨g7, _, _, _, _, _, _, _, _, _, _, _, _, _, _, _, _, _, _, _, _, _, _, _, _, _, _, _, _, _, _, _, _, _, _, _, _, _, _, _, _, _, _, _, _, _, _, _, _, _, _, _, _, _, _, _, _, _,  rfl, HO.drop _ (.cons _ (.cons _ (.cons_cons _ (.cons_cons _ (.slnil)))))⟩
      · intro w1 hg K hK  -- 4 buildSlice 63 1 #[(0, const (int u8 1))]
        rw [if_pos (by rfl)]
        replace HO := HO.up hg
        replace hK := Shut.mk hK
        go_simp
        refine hK.out _ _ (fun _ => below_alloc (Below.refl _ _) _) ?_
        replace HO := HO.alloc (.cells #[.int .u8 1] 5)
        clear hg K hK
        generalize hwa : w1.alloc (.cells #[.int .u8 1] 5) = wa at *
        generalize hga : w1.heap.size = g4 at *
        clear hwa hga w1
        refine kone (i := 0) (N := (some 32)) #[true, false, false, true, true, false, false, true, false] rfl rfl (by kernel_rfl) (fun w1 hg K hK => ?_)  -- 0 buildSlice 63 1 #[(0, const (int u8 1))]
        rw [if_pos (by rfl)]
        replace HO := HO.up hg
        replace hK := Shut.mk hK
        go_simp
        refine hK.out _ _ (fun _ => below_alloc (Below.refl _ _) _) ?_
        replace HO := HO.alloc (.cells #[.int .u8 1] 5)
        clear hg K hK
        generalize hwa : w1.alloc (.cells #[.int .u8 1] 5) = wa at *
        generalize hga : w1.heap.size = g0 at *
        clear hwa hga w1
        refine ktake (i := 1) (N := (some 33)) (v := .string (textV 1)) (a' := ?_) #[true, true, false, true, true, false, false, true, false] rfl rfl (by kernel_rfl) (fun _ _ _ h => h) (Or.inl ⟨by rfl, fun w1 hg => RunG_call Try.func86 (by kernel_rfl) rfl [.slice (some ⟨g0, 0, none⟩) 1 1] rfl (by rfl) (number1 1 (by decide) _ _ ((HO.up hg).blk 0 rfl))⟩) ?_ ?_  -- 1 call { callee := value (func 86), args := #[tmp 32], argTypes := #[63] }
        rotate_left
        · simp only [Act.put, List.setIfInBounds_toArray, List.set_cons_zero, List.set_cons_succ, i64_w, i32_w]; rfl
        refine ktake (i := 2) (N := (some 34)) (v := .string (S25 0)) (a' := ?_) #[true, true, true, true, true, false, false, true, false] rfl rfl (by kernel_rfl) (fun _ _ _ h => h) (Or.inl ⟨by rfl, fun w1 hg => RunG_call Try.func86 (by kernel_rfl) rfl [.slice none 0 0] rfl (by rfl) (number0 _)⟩) ?_ ?_  -- 2 call { callee := value (func 86), args := #[const (slice none 0 0)], argTypes := #[63] }
        rotate_left
        · simp only [Act.put, List.setIfInBounds_toArray, List.set_cons_zero, List.set_cons_succ, i64_w, i32_w]; rfl
        refine ktake (i := 5) (N := (some 37)) (v := .string (textV 1)) (a' := ?_) #[true, true, true, true, true, true, false, true, false] rfl rfl (by kernel_rfl) (fun _ _ _ h => h) (Or.inl ⟨by rfl, fun w1 hg => RunG_call Try.func86 (by kernel_rfl) rfl [.slice (some ⟨g4, 0, none⟩) 1 1] rfl (by rfl) (number1 1 (by decide) _ _ ((HO.up hg).blk 1 rfl))⟩) ?_ ?_  -- 5 call { callee := value (func 86), args := #[tmp 36], argTypes := #[63] }
        rotate_left
        · simp only [Act.put, List.setIfInBounds_toArray, List.set_cons_zero, List.set_cons_succ, i64_w, i32_w]; rfl
        refine kpure (i := 6) (N := (some 38)) (v := ?_) (a' := ?_) #[true, true, true, true, true, true, true, true, false] rfl rfl (by kernel_rfl) (fun _ _ _ h => h) (Or.inl ⟨by rfl, ?_⟩) ?_ ?_  -- 6 build 94 #[(0, tmp 33), (1, tmp 34), (2, tmp 35), (3, tmp 37)]
        rotate_left
        · intro w'; go_simp; with_reducible rfl
        rotate_left
        · simp only [Act.put, List.setIfInBounds_toArray, List.set_cons_zero, List.set_cons_succ, i64_w, i32_w]; rfl
        refine kone (i := 8) (N := none) #[true, true, true, true, true, true, true, true, true] rfl rfl (by kernel_rfl) (fun w1 hg K hK => ?_)  -- 8 store 94 (tmp 7) (tmp 38)
        rw [if_pos (by rfl)]
        replace HO := HO.up hg
        have c1 := HO.cell 2 rfl
        have f1 := HO.frozen 2 rfl
        go_simp
        refine hK _ _ (fun h => absurd (by decide) h) ?_
        replace HO := (((HO.set 2 rfl 0 (.string (textV 1))).set 2 rfl 1 (.string (S25 0))).set 2 rfl 2 (.string (S25 (uPt u)))).set 2 rfl 3 (.string (textV 1))
        clear c1 f1 hg K hK
        refine kdone (by kernel_rfl) (fun w1 hg => ?_)
        replace HO := HO.up hg
        rw [text_1] at HO
        exact hM'.out _ _ ⟨g7, _, _, _, _, _, _, _, _, _, _, _, _, _, _, _, _, _, _, _, _, _, _, _, _, _, _, _, _, _, _, _, _, _, _, _, _, _, _, _, _, _, _, _, _, _, _, _, _, _, _, _, _, _, _, _, _, _,  rfl, HO.drop _ (.cons _ (.cons _ (.cons_cons _ (.cons_cons _ (.slnil)))))⟩
  rintro a' W ⟨g7, x1, x2, x4, x5, x6, x8, x9, x10, x11, x12, x13, x14, x15, x16, x17, x18, x19, x20, x21, x22, x23, x24, x25, x26, x27, x28, x29, x30, x31, x32, x33, x34, x35, x36, x37, x38, x39, x40, x41, x42, x43, x44, x45, x46, x47, x48, x49, x50, x51, x52, x53, x54, x55, x56, x57, x58, x59, rfl, HO⟩
  clear hs2 Hg HLen e2 h1 h2
  go_wp2_with (first | (go_at_call 85; refine (HC.out _).mono ?_; rintro e w1 ⟨rfl, hb⟩; replace HO := HO.up hb; clear hb) | (go_at_call 87; refine (bits_any _ _).mono ?_; rintro e w1 ⟨gk, rfl, hgk, hck, hb⟩; replace HO := (HO.up hb).take hck (Nat.le_trans HO.below.size hgk) (by have a1 := HO.lt 0 rfl; have a2 := HO.lt 1 rfl; simp; omega); clear hb hgk))
  clear HC HN
  generalize hxu : uPt u = x at *
  have HO0 := HO
  refine (wpIn_wide (n := 9)).1 ?_
  refine wpIn_rangeFunc_ownF (F := Fence.wide) rfl (by omega) (gf := 112) (lb := #[.pointer (some ⟨gk, 0, none⟩)]) rfl trivial (enters_of Try.func112 (by kernel_rfl) rfl)
    (bits1_stops _ gk (clampS k) hks w1 (HO.blk 0 rfl)) keepsAt_t keepsAt_b (Below.refl _ _) (fun _ => rfl)
    (fun pre W => Own w [(gk, .cells #[.string (clampS k)] 9 (0, 0)), (g7, .cells (rungC (Ed.lad c25 x pre)) 94 (0, 0)), (w.heap.size, .cells #[.string (S25 x)] 9 (0, 0))] W)
    (fun _ _ _ => False) (Own.from HO.below.size (fun s p hp => by simp only [List.mem_cons, List.not_mem_nil, or_false] at hp; rcases hp with rfl | rfl | rfl <;> rfl)) (fun _ _ _ _ _ h _ _ => h) HO
    (fun b => { tmps := List.toArray (.string k :: x1 :: x2 :: .pointer (some ⟨w.heap.size, 0, none⟩) :: x4 :: x5 :: x6 :: .pointer (some ⟨g7, 0, none⟩) :: .bool b :: x9 :: x10 :: x11 :: x12 :: x13 :: x14 :: x15 :: x16 :: x17 :: x18 :: x19 :: x20 :: x21 :: x22 :: x23 :: x24 :: x25 :: x26 :: x27 :: x28 :: x29 :: x30 :: x31 :: x32 :: x33 :: x34 :: x35 :: x36 :: x37 :: x38 :: .string k :: .string (clampS k) :: .func (.func 112) #[] #[.pointer (some ⟨gk, 0, none⟩)] :: .bool b :: x43 :: x44 :: x45 :: x46 :: x47 :: x48 :: x49 :: x50 :: x51 :: x52 :: x53 :: x54 :: x55 :: x56 :: x57 :: x58 :: x59 :: []), defers := [] }) ?assign ?body ?done ?stop
  case assign =>
    intro l b W K hK
    gi_wp2
    exact hK
  case body =>
    intro l pre b W HO _
    refine wpIn_block ?_
    refine wpIn_cut (fun _ W' => KeepsOthers W W' ∧ KeepsAt gk W W' ∧ Own w [(gk, .cells #[.string (clampS k)] 9 (0, 0)), (g7, .cells (rungC (Ed.lad c25 x (pre ++ [b]))) 94 (0, 0)), (w.heap.size, .cells #[.string (S25 x)] 9 (0, 0))] W') ?_ (fun _ _ h => h)
    have hl : Ed.lad c25 x (pre ++ [b]) = (Ed.lad c25 x pre).bit c25 x b := by unfold Ed.lad; rw [List.foldl_append]; rfl
    have hb : (Ed.lad c25 x pre).bit c25 x b = if b then ((if b then (Ed.lad c25 x pre).swap else (Ed.lad c25 x pre)).step c25 x).swap else ((if b then (Ed.lad c25 x pre).swap else (Ed.lad c25 x pre)).step c25 x) := by cases b <;> rfl
    rw [hl, hb]
    clear hl hb
    have HK := KeepsOthers.refl W
    have hck := HO.blk 0 rfl
    generalize Ed.lad c25 x pre = s at *
    refine kstartR (m := 8) (ds := [7]) #[false, false, false, false, false, false, false, false] (by kernel_rfl) rfl rfl (by kernel_rfl) (not_lets _) ?_
    refine kpure (i := 1) (N := (some 44)) (v := ?_) (a' := ?_) #[false, true, false, false, false, false, false, false] rfl rfl (by kernel_rfl) (fun _ _ _ h => h) (Or.inl ⟨by rfl, ?_⟩) ?_ ?_  -- 1 move (tmp 8)
    rotate_left
    · intro w'; go_simp; with_reducible rfl
    rotate_left
    · simp only [Act.put, List.setIfInBounds_toArray, List.set_cons_zero, List.set_cons_succ, i64_w, i32_w]; rfl
    refine kpure (i := 5) (N := (some 48)) (v := ?_) (a' := ?_) #[false, true, false, false, false, true, false, false] rfl rfl (by kernel_rfl) (fun _ _ _ h => h) (Or.inl ⟨by rfl, ?_⟩) ?_ ?_  -- 5 move (tmp 8)
    rotate_left
    · intro w'; go_simp; with_reducible rfl
    rotate_left
    · simp only [Act.put, List.setIfInBounds_toArray, List.set_cons_zero, List.set_cons_succ, i64_w, i32_w]; rfl
    refine ktake (i := 0) (N := (some 43)) (v := ?_) (a' := ?_) #[true, true, false, false, false, true, false, false] rfl rfl (by kernel_rfl) (fun _ _ _ h => h) (Or.inl ⟨by rfl, fun w1 hg => ?_⟩) ?_ ?_  -- 0 load 94 (tmp 7)
    rotate_left
    · refine RunG_value ?_; have c0 := (HO.up hg).cell 1 rfl; have c2 := (HO.up hg).cell 2 rfl; unfold rungC at c0; go_simp; with_reducible rfl
    rotate_left
    · simp only [Act.put, List.setIfInBounds_toArray, List.set_cons_zero, List.set_cons_succ, i64_w, i32_w]; rfl
    refine ktake (i := 2) (N := (some 45)) (v := rungV (if b then Ed.St.swap s else s)) (a' := ?_) #[true, true, true, false, false, true, false, false] rfl rfl (by kernel_rfl) (fun _ _ _ h => h) (Or.inl ⟨by rfl, fun w1 hg => RunG_call Try.func88 (by kernel_rfl) rfl [rungV s, .bool b] rfl (by rfl) (swapped_any s b _)⟩) ?_ ?_  -- 2 call { callee := value (func 88), args := #[tmp 43, tmp 44], argTypes := #[94, 4] }
    rotate_left
    · simp only [Act.put, List.setIfInBounds_toArray, List.set_cons_zero, List.set_cons_succ, i64_w, i32_w]; rfl
    refine ktake (i := 3) (N := (some 46)) (v := ?_) (a' := ?_) #[true, true, true, true, false, true, false, false] rfl rfl (by kernel_rfl) (fun _ _ _ h => h) (Or.inl ⟨by rfl, fun w1 hg => ?_⟩) ?_ ?_  -- 3 load 9 (tmp 3)
    rotate_left
    · refine RunG_value ?_; have c0 := (HO.up hg).cell 1 rfl; have c2 := (HO.up hg).cell 2 rfl; unfold rungC at c0; go_simp; with_reducible rfl
    rotate_left
    · simp only [Act.put, List.setIfInBounds_toArray, List.set_cons_zero, List.set_cons_succ, i64_w, i32_w]; rfl
    refine ktake (i := 4) (N := (some 47)) (v := rungV (Ed.St.step c25 x (if b then s.swap else s))) (a' := ?_) #[true, true, true, true, true, true, false, false] rfl rfl (by kernel_rfl) (fun _ _ _ h => h) (Or.inl ⟨by rfl, fun w1 hg => RunG_call Try.func89 (by kernel_rfl) rfl [rungV (if b then s.swap else s), .string (S25 x)] rfl (by rfl) (next_any (if b then s.swap else s) x _)⟩) ?_ ?_  -- 4 call { callee := value (func 89), args := #[tmp 45, tmp 46], argTypes := #[94, 9] }
    rotate_left
    · simp only [Act.put, List.setIfInBounds_toArray, List.set_cons_zero, List.set_cons_succ, i64_w, i32_w]; rfl
    refine ktake (i := 6) (N := (some 49)) (v := rungV (if b then Ed.St.swap (Ed.St.step c25 x (if b then s.swap else s)) else (Ed.St.step c25 x (if b then s.swap else s)))) (a' := ?_) #[true, true, true, true, true, true, true, false] rfl rfl (by kernel_rfl) (fun _ _ _ h => h) (Or.inl ⟨by rfl, fun w1 hg => RunG_call Try.func88 (by kernel_rfl) rfl [rungV (Ed.St.step c25 x (if b then s.swap else s)), .bool b] rfl (by rfl) (swapped_any (Ed.St.step c25 x (if b then s.swap else s)) b _)⟩) ?_ ?_  -- 6 call { callee := value (func 88), args := #[tmp 47, tmp 48], argTypes := #[94, 4] }
    rotate_left
    · simp only [Act.put, List.setIfInBounds_toArray, List.set_cons_zero, List.set_cons_succ, i64_w, i32_w]; rfl
    refine kone (i := 7) (N := none) #[true, true, true, true, true, true, true, true] rfl rfl (by kernel_rfl) (fun w1 hg K hK => ?_)  -- 7 store 94 (tmp 7) (tmp 49)
    rw [if_pos (by rfl)]
    replace HO := HO.up hg
    replace HK := HK.trans (KeepsOthers.ofGr hg)
    have c1 := HO.cell 1 rfl
    have f1 := HO.frozen 1 rfl
    generalize (if b then (Ed.St.step c25 x (if b then s.swap else s)).swap else (Ed.St.step c25 x (if b then s.swap else s))) = s' at *
    unfold rungC at c1 HO
    unfold rungV
    go_simp
    refine hK _ _ (fun h => absurd (by decide) h) ?_
    replace HO := (((HO.set 1 rfl 0 (.string (S25 s'.x2))).set 1 rfl 1 (.string (S25 s'.z2))).set 1 rfl 2 (.string (S25 s'.x3))).set 1 rfl 3 (.string (S25 s'.z3))
    replace HK := keeps_set4 HK ⟨g7, 0, none⟩ ⟨g7, 1, none⟩ ⟨g7, 2, none⟩ ⟨g7, 3, none⟩ (.string (S25 s'.x2)) (.string (S25 s'.z2)) (.string (S25 s'.x3)) (.string (S25 s'.z3))
    clear c1 f1 hg K hK
    refine kdone (by kernel_rfl) (fun w1 hg => ?_)
    replace HO := HO.up hg
    exact ⟨HK.trans (KeepsOthers.ofGr hg), fun cs t fr h => (by rw [hck] at h; cases h; exact HO.blk 0 rfl), HO⟩
  case done =>
    rintro D ys W hD rfl HO hK
    replace HO := HO.take hK (Nat.le_trans HO0.below.size hD) (by have a1 := HO0.lt 0 rfl; have a2 := HO0.lt 1 rfl; have a3 := HO0.lt 2 rfl; simp; omega)
    have hIn := Lib.hid (fun W => InvT W (S25_isT (Ed.lad c25 x (kbits (clampS k))).z2))
    rw [inv_T] at hIn
    have hms : multS k u = S25 ((Ed.lad c25 x (kbits (clampS k))).x2 * inv25 (Ed.lad c25 x (kbits (clampS k))).z2) := by unfold multS; rw [hxu]; rfl
    have HMS := Lib.hid hms
    clear hms hxu
    generalize Ed.lad c25 x (kbits (clampS k)) = s at *
    have c1 := HO.cell 2 rfl
    unfold rungC at c1
    go_wp2_with (first | (go_at_call 12; refine (hIn.out _).mono ?_; rintro e w1 ⟨rfl, hb⟩; replace HO := HO.up hb; clear hb c1; have c1 := HO.cell 2 rfl; unfold rungC at c1) | (go_at_call 90; refine (ladMul s.x2 (inv25 s.z2) _).mono ?_; rintro e w1 ⟨rfl, hb⟩; replace HO := HO.up hb; clear hb))
    refine ⟨by simp, .inl ⟨_, _, rfl, run_takeDeferred (HO.blk 0 rfl), ?_⟩⟩
    rw [HMS.out]
    refine ⟨_, by simp [results, Try.results48, go_sem], rfl, ?_⟩
    exact HO.below.trans (belowK_b (w := w) (Nat.le_refl _) w1 D _ _ (HO.ge 0 rfl) (HO.blk 0 rfl) rfl rfl)
  case stop =>
    rintro D c pre W _ _ h _
    exact h.elim
end Go.Proofs.Ytdmpnogjpgoaaaa

set_option linter.unusedSimpArgs false
/-! The plain law of the ladder. -/
namespace Go.Proofs.Ytdmpnogjpgoaaaa
open Go.RowKit Go.Proofs.YtdmpnogjpgoaaaaW.PrintWords Go.Proofs.YtdmpnogjpgoaaaaW.PrintLast Go.Proofs.YtdmpnogjpgoaaaaW.PrintMore
theorem bytesOf_str (l : List Nat) (h : ∀ d ∈ l, d < 256) : bytesOf (strOfNums (I l)) = l := by
  unfold bytesOf
  rw [strOfNums_data]
  unfold I
  rw [List.map_map, List.map_map]
  refine (List.map_congr_left (g := id) (fun n hn => ?_)).trans (List.map_id _)
  have := h n hn
  show (UInt8.ofNat ((n : Int)).toNat).toNat = n
  rw [Int.toNat_natCast, UInt8.toNat_ofNat_of_lt' this]
theorem str_bytesOf (s : ByteArray) : strOfNums (I (bytesOf s)) = s := by
  have : (strOfNums (I (bytesOf s))).data.toList = s.data.toList := by
    rw [strOfNums_data]
    unfold I bytesOf
    rw [List.map_map, List.map_map]
    refine (List.map_congr_left (g := id) (fun b _ => ?_)).trans (List.map_id _)
    show UInt8.ofNat ((b.toNat : Int)).toNat = b
    rw [Int.toNat_natCast, UInt8.ofNat_toNat]
  exact ByteArray.ext (Array.ext' this)
theorem bytesOf_inj {s t : ByteArray} (h : bytesOf s = bytesOf t) : s = t := by rw [← str_bytesOf s, h, str_bytesOf]
theorem getD_lt256 {l : List Nat} (h : ∀ d ∈ l, d < 256) (i : Nat) : l.getD i 0 < 256 := by
  rw [List.getD_eq_getElem?_getD]
  cases hi : l[i]? with
  | none => simp
  | some n => exact h n (List.mem_of_getElem? hi)
theorem set_lt {l : List Nat} (h : ∀ d ∈ l, d < 256) (i n : Nat) (hn : n < 256) : ∀ d ∈ l.set i n, d < 256 := by
  intro d hd
  rcases List.mem_or_eq_of_mem_set hd with h1 | h1
  · exact h d h1
  · rw [h1]; exact hn
theorem bytesOf_topS (u : ByteArray) : bytesOf (topS u) = topL (bytesOf u) := by
  unfold topS topL
  exact bytesOf_str _ (set_lt (bytesOf_lt u) _ _ (by have := getD_lt256 (bytesOf_lt u) 31; omega))
theorem bytesOf_clampS (k : ByteArray) : bytesOf (clampS k) = clampL (bytesOf k) := by
  unfold clampS clampL
  exact bytesOf_str _ (set_lt (set_lt (bytesOf_lt k) _ _ (by have := getD_lt256 (bytesOf_lt k) 0; omega)) _ _ (by omega))
theorem valB_last {l : List Nat} (h : l.length = 32) : valB l = valB (l.take 31) + 256 ^ 31 * l.getD 31 0 := by
  have hg : l[31]? = some (l.getD 31 0) := by rw [List.getD_eq_getElem?_getD, List.getElem?_eq_getElem (by omega)]; rfl
  have := valB_take hg
  rwa [List.take_of_length_le (by omega)] at this
theorem top_mod (A n : Nat) (hA : A < 256 ^ 31) : (A + 256 ^ 31 * n) % 2 ^ 255 = A + 256 ^ 31 * (n % 128) := by
  rw [show (2 : Nat) ^ 255 = 256 ^ 31 * 128 by decide, Nat.mod_mul, Nat.add_mul_mod_self_left, Nat.mod_eq_of_lt hA, Nat.add_mul_div_left _ _ (by decide), Nat.div_eq_of_lt hA, Nat.zero_add]
theorem leV_topS (u : ByteArray) (hu : u.size = 32) : leV (topS u) = leV u % 2 ^ 255 := by
  have hl : (bytesOf u).length = 32 := by rw [bytesOf_len, hu]
  have h1 := valB_take_lt (bytesOf_lt u) 31 (by omega)
  unfold leV
  rw [bytesOf_topS]
  unfold topL
  rw [valB_last (by rw [List.length_set, hl]), valB_last hl, top_mod _ _ h1, List.take_set_of_le (by omega)]
  rw [List.getD_eq_getElem?_getD, List.getElem?_set_self (by omega)]
  rfl
theorem P25_255 : P25 < 2 ^ 255 := by decide +kernel
theorem uPt_S25 (x : F25) : uPt (S25 x) = x := by
  refine Fin.ext ?_
  show leV (topS (S25 x)) % P25 = x.val
  rw [leV_topS _ (S25_size x), S25_leV, Nat.mod_eq_of_lt (Nat.lt_trans x.isLt P25_255), Nat.mod_eq_of_lt x.isLt]
/-! ### the bits of a clamped key -/
theorem kbit_bytes (k : ByteArray) (i : Nat) : kbit k i = ((bytesOf k).getD (i / 8) 0 / 2 ^ (i % 8) % 2 == 1) := by
  have : (k.data[i / 8]?.getD 0).toNat = (bytesOf k).getD (i / 8) 0 := by
    unfold bytesOf
    rw [List.getD_eq_getElem?_getD, List.getElem?_map, Array.getElem?_toList]
    cases k.data[i / 8]? <;> rfl
  unfold kbit
  rw [this]
theorem clampL_0 (l : List Nat) (h : l.length = 32) : (clampL l).getD 0 0 = l.getD 0 0 / 8 * 8 := by
  unfold clampL
  rw [List.getD_eq_getElem?_getD, List.getElem?_set_ne (by decide), List.getElem?_set_self (by omega)]
  rfl
theorem clampL_31 (l : List Nat) (h : l.length = 32) : (clampL l).getD 31 0 = l.getD 31 0 % 64 + 64 := by
  unfold clampL
  rw [List.getD_eq_getElem?_getD, List.getElem?_set_self (by rw [List.length_set]; omega)]
  rfl
theorem valL_snoc (l : List Bool) (b : Bool) : Ed.valL (l ++ [b]) = 2 * Ed.valL l + b.toNat := by
  unfold Ed.valL
  rw [List.foldl_append]
  rfl
theorem kbits_clamp (k : ByteArray) (hk : k.size = 32) : ∃ l, kbits (clampS k) = true :: l ∧ Ed.valL (true :: l) % 2 = 0 := by
  have hl : (bytesOf k).length = 32 := by rw [bytesOf_len, hk]
  have h254 : kbit (clampS k) 254 = true := by
    rw [kbit_bytes, bytesOf_clampS]
    show ((clampL (bytesOf k)).getD 31 0 / 64 % 2 == 1) = true
    rw [clampL_31 _ hl, show ((bytesOf k).getD 31 0 % 64 + 64) / 64 % 2 = 1 by omega]
    rfl
  have h0 : kbit (clampS k) 0 = false := by
    rw [kbit_bytes, bytesOf_clampS]
    show ((clampL (bytesOf k)).getD 0 0 / 1 % 2 == 1) = false
    rw [clampL_0 _ hl, Nat.div_one, show (bytesOf k).getD 0 0 / 8 * 8 % 2 = 0 by omega]
    rfl
  have hc : kbits (clampS k) = true :: (List.range 254).map (fun j => kbit (clampS k) (253 - j)) := by
    unfold kbits
    rw [List.range_succ_eq_map, List.map_cons, List.map_map, h254]
    refine congrArg _ (List.map_congr_left fun j _ => ?_)
    show kbit _ (254 - (j + 1)) = _
    rw [show 254 - (j + 1) = 253 - j by omega]
  have hs : kbits (clampS k) = (List.range 254).map (fun j => kbit (clampS k) (254 - j)) ++ [false] := by
    unfold kbits
    rw [List.range_succ, List.map_append, List.map_singleton, h0]
  refine ⟨_, hc, ?_⟩
  rw [← hc, hs, valL_snoc]
  show (2 * _ + 0) % 2 = 0
  omega
theorem clamp_twice (k : ByteArray) (hk : k.size = 32) : clampS (clampS k) = clampS k := by
  have hl : (bytesOf k).length = 32 := by rw [bytesOf_len, hk]
  refine bytesOf_inj ?_
  rw [bytesOf_clampS, bytesOf_clampS]
  show ((clampL (bytesOf k)).set 0 ((clampL (bytesOf k)).getD 0 0 / 8 * 8)).set 31 ((clampL (bytesOf k)).getD 31 0 % 64 + 64) = clampL (bytesOf k)
  rw [clampL_0 _ hl, clampL_31 _ hl, show (bytesOf k).getD 0 0 / 8 * 8 / 8 * 8 = (bytesOf k).getD 0 0 / 8 * 8 by omega, show ((bytesOf k).getD 31 0 % 64 + 64) % 64 + 64 = (bytesOf k).getD 31 0 % 64 + 64 by omega]
  unfold clampL
  refine List.ext_getElem? fun i => ?_
  simp only [List.getElem?_set, List.length_set, hl]
  by_cases h0 : 0 = i <;> by_cases h31 : 31 = i <;> simp [h0, h31]
  all_goals (try omega)
/-- Two keys' base points, each times the other key, are the same point. -/
theorem shares_F (a b : ByteArray) (ha : a.size = 32) (hb : b.size = 32) : multS a (S25 (multF b 9)) = multS b (S25 (multF a 9)) := by
  unfold multS
  rw [uPt_S25, uPt_S25]
  obtain ⟨l, hl, vl⟩ := kbits_clamp a ha
  obtain ⟨m, hm, vm⟩ := kbits_clamp b hb
  unfold multF
  rw [hl, hm]
  exact congrArg S25 (shares25 m l vm vl)
end Go.Proofs.Ytdmpnogjpgoaaaa

set_option linter.unusedSimpArgs false
namespace Go.Proofs.Ytdmpnogjpgoaaaa
open Go.RowKit Go.Proofs.YtdmpnogjpgoaaaaW.PrintWords Go.Proofs.YtdmpnogjpgoaaaaW.PrintLast Go.Proofs.YtdmpnogjpgoaaaaW.PrintMore
attribute [local irreducible] Calls
set_option maxHeartbeats 1000000 in
theorem Mult_bad (k u : ByteArray) (hk : ¬ (k.size = 32 ∧ u.size = 32)) (w : World) :
    Calls Try.prog 48 #[.string k, .string u] w fun e w' => e = .returned (.tuple #[.string ⟨#[]⟩, .int .i64 2]) ∧ Below w.heap.size w w' := by
  by_cases h1 : k.size = 32
  · have h2 : ((u.size : Int) != 32) = true := by rw [bne_iff_ne]; omega
    have h1 : ((k.size : Int) != 32) = false := by rw [h1]; rfl
    clear hk
    go_enter Try.func48, Try.ntmps48
    go_wp2
    go_ret2
    exact ⟨rfl, below_alloc (Below.refl _ _) _⟩
  · have h1 : ((k.size : Int) != 32) = true := by rw [bne_iff_ne]; omega
    clear hk
    go_enter Try.func48, Try.ntmps48
    go_wp2
    go_ret2
    exact ⟨rfl, below_alloc (Below.refl _ _) _⟩
theorem mult9 (k : ByteArray) : multS k (textV 9) = S25 (multF k 9) := by
  unfold multS
  rw [text_9, uPt_S25]
theorem Base_any (k : ByteArray) (hk : k.size = 32) (w : World) :
    Calls Try.prog 50 #[.string k] w fun e w' => e = .returned (.tuple #[.string (S25 (multF k 9)), .int .i64 0]) ∧ Below w.heap.size w w' := by
  have H := Lib.hid (Mult_any k (textV 9) hk (textV_size 9))
  rw [mult9] at H
  clear hk
  go_enter Try.func50, Try.ntmps50
  go_wp2_with (first | (go_at_call 86; refine (number1 9 (by decide) _ _ (heap_alloc_new _ _)).mono ?_; rintro e w1 ⟨rfl, hb⟩; have HB := Aside0.mk (below_step (below_alloc (Below.refl _ _) _) hb); clear hb) | (go_at_call 48; refine (H.out _).mono ?_; rintro e w1 ⟨rfl, hb⟩; replace HB := Aside0.mk (below_step HB.out hb); clear hb))
  go_ret2
  exact ⟨rfl, HB.out⟩
theorem Base_bad (k : ByteArray) (hk : k.size ≠ 32) (w : World) :
    Calls Try.prog 50 #[.string k] w fun e w' => e = .returned (.tuple #[.string ⟨#[]⟩, .int .i64 2]) ∧ Below w.heap.size w w' := by
  have H := Lib.hid (Mult_bad k (textV 9) (fun h => hk h.1))
  clear hk
  go_enter Try.func50, Try.ntmps50
  go_wp2_with (first | (go_at_call 86; refine (number1 9 (by decide) _ _ (heap_alloc_new _ _)).mono ?_; rintro e w1 ⟨rfl, hb⟩; have HB := Aside0.mk (below_step (below_alloc (Below.refl _ _) _) hb); clear hb) | (go_at_call 48; refine (H.out _).mono ?_; rintro e w1 ⟨rfl, hb⟩; replace HB := Aside0.mk (below_step HB.out hb); clear hb))
  go_ret2
  exact ⟨rfl, HB.out⟩
theorem cutN_le (s : ByteArray) (n : Nat) (h : s.size ≤ n) : cutN s n = s := by unfold cutN; rw [Nat.min_eq_left h]; exact ByteArray.extract_zero_size
theorem cutN_gt (s : ByteArray) (n : Nat) (h : n < s.size) : cutN s n = s.extract 0 n := by unfold cutN; rw [Nat.min_eq_right (by omega)]
theorem cut02 (s : ByteArray) (w : World) : Calls Try.prog 46 #[.string s] w fun e w' => e = .returned (.string (cutN s 34)) ∧ Below w.heap.size w w' := by
  go_enter Try.func46, Try.ntmps46
  go_wp2
  · go_ret
    exact ⟨by rw [cutN_gt s 34 (by omega)]; rfl, Below.refl _ _⟩
  · go_ret
    exact ⟨by rw [cutN_le s 34 (by omega)]; rfl, Below.refl _ _⟩
theorem alive_31 : ((clampS (strOfNums (I (List.replicate 32 0)))).data[31]?.map (·.toNat)) = some 64 := by decide +kernel
attribute [local go_sem high] make32
set_option maxRecDepth 100000 in
set_option maxHeartbeats 1000000 in
theorem alive02 (w : World) : Calls Try.prog 49 #[] w fun e w' => e = .returned (.bool true) ∧ Below w.heap.size w w' := by
  have hcv := convB (List.replicate 32 0) (by decide) w.heap.size 32 (w.alloc (.cells (mk32 0 0).toArray 5)) (heap_alloc_new _ _)
  have hz : (strOfNums (I (List.replicate 32 0))).size = 32 := by rw [strOfNums_size, I_len]; rfl
  have H := Lib.hid (Clamp_any _ hz)
  have hs := clampS_size _ hz
  have h31' := alive_31
  rw [show (List.replicate 32 0).length = 32 from rfl] at hcv
  obtain ⟨z, hzz⟩ : ∃ z, clampS (strOfNums (I (List.replicate 32 0))) = z := ⟨_, rfl⟩
  rw [hzz] at H hs h31'
  clear hzz
  have h31 : (z[31]'(by omega)).toNat = 64 := by
    rw [show z.data[31]? = some (z[31]'(by omega)) from Array.getElem?_eq_getElem (by show 31 < z.size; omega)] at h31'
    exact Option.some.inj h31'
  clear h31'
  generalize strOfNums (I (List.replicate 32 0)) = y at *
  clear hz
  go_enter Try.func49, Try.ntmps49
  go_wp2_with (go_at_call 47; refine (H.out _).mono ?_; rintro e w1 ⟨rfl, hb⟩)
  go_ret
  exact ⟨rfl, below_step (below_alloc (Below.refl _ _) _) hb⟩
end Go.Proofs.Ytdmpnogjpgoaaaa

set_option linter.unusedSimpArgs false
namespace Go.Proofs.Ytdmpnogjpgoaaaa
open Go.RowKit Go.Proofs.YtdmpnogjpgoaaaaW.PrintWords Go.Proofs.YtdmpnogjpgoaaaaW.PrintLast Go.Proofs.YtdmpnogjpgoaaaaW.PrintMore
theorem sz2_nf {x : ByteArray} (h : x.size = 32) : ((x.size : Int) != 32) = false := by rw [h]; rfl
theorem sz2_nt {x : ByteArray} (h : x.size ≠ 32) : ((x.size : Int) != 32) = true := by rw [bne_iff_ne]; omega
theorem sz2_t {x : ByteArray} (h : x.size = 32) : ((x.size : Int) == 32) = true := by rw [h]; rfl
theorem multS_size (k u : ByteArray) : (multS k u).size = 32 := S25_size _
attribute [local irreducible] Calls
set_option maxHeartbeats 4000000 in
set_option maxRecDepth 100000 in
theorem LadderShares_walk (a b : ByteArray) (W : World) : Calls Try.prog 10 #[.string a, .string b] W fun e W' => e = .returned (.bool true) ∧ Below W.heap.size W W' := by
  by_cases hx : (cutN a 34).size = 32 <;> by_cases hy : (cutN b 34).size = 32
  · skip
    go_enter Try.func10, Try.ntmps10
    go_wp2_with fail
    refine (cut02 a _).mono ?_
    rintro e w1 ⟨rfl, hb⟩
    have HB := Aside0.mk hb
    clear hb
    go_wp2_with fail
    refine (cut02 b _).mono ?_
    rintro e w1 ⟨rfl, hb⟩
    replace HB := Aside0.mk (below_step HB.out hb)
    clear hb
    generalize cutN a 34 = x at *
    generalize cutN b 34 = y at *
    have tx := sz2_nf hx
    have ty := sz2_nf hy
    have HX := Aside0.mk hx
    have HY := Aside0.mk hy
    clear hx hy
    go_wp2_with fail
    refine (Base_any x HX.out _).mono ?_
    rintro e w1 ⟨rfl, hb⟩
    replace HB := Aside0.mk (below_step HB.out hb)
    clear hb
    go_wp2_with fail
    refine (Base_any y HY.out _).mono ?_
    rintro e w1 ⟨rfl, hb⟩
    replace HB := Aside0.mk (below_step HB.out hb)
    clear hb
    have hsame := shares_F x y HX.out HY.out
    have hsz := sz2_t (multS_size x (S25 (multF y 9)))
    have HM1 := Lib.hid (Mult_any x (S25 (multF y 9)) HX.out (S25_size _))
    have HM2 := Lib.hid (Mult_any y (S25 (multF x 9)) HY.out (S25_size _))
    rw [← hsame] at HM2
    clear hsame
    generalize multS x (S25 (multF y 9)) = m at *
    generalize S25 (multF y 9) = q at *
    generalize S25 (multF x 9) = p at *
    go_wp2_with fail
    refine (HM1.out _).mono ?_
    rintro e w1 ⟨rfl, hb⟩
    replace HB := Aside0.mk (below_step HB.out hb)
    clear hb
    go_wp2_with fail
    refine (HM2.out _).mono ?_
    rintro e w1 ⟨rfl, hb⟩
    replace HB := Aside0.mk (below_step HB.out hb)
    clear hb
    go_wp2_with fail
    refine (alive02 _).mono ?_
    rintro e w1 ⟨rfl, hb⟩
    replace HB := Aside0.mk (below_step HB.out hb)
    clear hb
    go_wp2
    go_ret
    exact ⟨rfl, HB.out⟩
  · skip
    go_enter Try.func10, Try.ntmps10
    go_wp2_with fail
    refine (cut02 a _).mono ?_
    rintro e w1 ⟨rfl, hb⟩
    have HB := Aside0.mk hb
    clear hb
    go_wp2_with fail
    refine (cut02 b _).mono ?_
    rintro e w1 ⟨rfl, hb⟩
    replace HB := Aside0.mk (below_step HB.out hb)
    clear hb
    generalize cutN a 34 = x at *
    generalize cutN b 34 = y at *
    have tx := sz2_nf hx
    have ty := sz2_nt hy
    have HX := Aside0.mk hx
    have HY := Aside0.mk hy
    clear hx hy
    go_wp2_with fail
    refine (Base_any x HX.out _).mono ?_
    rintro e w1 ⟨rfl, hb⟩
    replace HB := Aside0.mk (below_step HB.out hb)
    clear hb
    go_wp2_with fail
    refine (Base_bad y HY.out _).mono ?_
    rintro e w1 ⟨rfl, hb⟩
    replace HB := Aside0.mk (below_step HB.out hb)
    clear hb
    go_wp2_with fail
    refine (alive02 _).mono ?_
    rintro e w1 ⟨rfl, hb⟩
    replace HB := Aside0.mk (below_step HB.out hb)
    clear hb
    go_wp2
    go_ret
    exact ⟨rfl, HB.out⟩
  · skip
    go_enter Try.func10, Try.ntmps10
    go_wp2_with fail
    refine (cut02 a _).mono ?_
    rintro e w1 ⟨rfl, hb⟩
    have HB := Aside0.mk hb
    clear hb
    go_wp2_with fail
    refine (cut02 b _).mono ?_
    rintro e w1 ⟨rfl, hb⟩
    replace HB := Aside0.mk (below_step HB.out hb)
    clear hb
    generalize cutN a 34 = x at *
    generalize cutN b 34 = y at *
    have tx := sz2_nt hx
    have ty := sz2_nf hy
    have HX := Aside0.mk hx
    have HY := Aside0.mk hy
    clear hx hy
    go_wp2_with fail
    refine (Base_bad x HX.out _).mono ?_
    rintro e w1 ⟨rfl, hb⟩
    replace HB := Aside0.mk (below_step HB.out hb)
    clear hb
    go_wp2_with fail
    refine (Base_any y HY.out _).mono ?_
    rintro e w1 ⟨rfl, hb⟩
    replace HB := Aside0.mk (below_step HB.out hb)
    clear hb
    go_wp2_with fail
    refine (alive02 _).mono ?_
    rintro e w1 ⟨rfl, hb⟩
    replace HB := Aside0.mk (below_step HB.out hb)
    clear hb
    go_wp2
    go_ret
    exact ⟨rfl, HB.out⟩
  · skip
    go_enter Try.func10, Try.ntmps10
    go_wp2_with fail
    refine (cut02 a _).mono ?_
    rintro e w1 ⟨rfl, hb⟩
    have HB := Aside0.mk hb
    clear hb
    go_wp2_with fail
    refine (cut02 b _).mono ?_
    rintro e w1 ⟨rfl, hb⟩
    replace HB := Aside0.mk (below_step HB.out hb)
    clear hb
    generalize cutN a 34 = x at *
    generalize cutN b 34 = y at *
    have tx := sz2_nt hx
    have ty := sz2_nt hy
    have HX := Aside0.mk hx
    have HY := Aside0.mk hy
    clear hx hy
    go_wp2_with fail
    refine (Base_bad x HX.out _).mono ?_
    rintro e w1 ⟨rfl, hb⟩
    replace HB := Aside0.mk (below_step HB.out hb)
    clear hb
    go_wp2_with fail
    refine (Base_bad y HY.out _).mono ?_
    rintro e w1 ⟨rfl, hb⟩
    replace HB := Aside0.mk (below_step HB.out hb)
    clear hb
    go_wp2_with fail
    refine (alive02 _).mono ?_
    rintro e w1 ⟨rfl, hb⟩
    replace HB := Aside0.mk (below_step HB.out hb)
    clear hb
    go_wp2
    go_ret
    exact ⟨rfl, HB.out⟩
end Go.Proofs.Ytdmpnogjpgoaaaa

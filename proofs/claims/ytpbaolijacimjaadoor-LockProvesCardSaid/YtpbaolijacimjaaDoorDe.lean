import Derived.Test.YtpbaolijacimjaaDoorProg
import Derived.Lib.Strings
import Derived.Lib.Slices
import Derived.Lib.Walk
import Derived.Lib.Builder
import Derived.Lib.AppendStr
import Derived.Lib.UnsafeStr
import Derived.Lib.MakeNoZero
import Derived.WalkKit
import Derived.Laws.Externs
import Derived.Laws.IdiomCopy
import Derived.Laws.BitsLemmas
import Derived.Test.YtpbaolijacimjaaDoorDb
import Derived.Test.YtpbaolijacimjaaDoorDa
import Derived.Test.YtpbaolijacimjaaDoorDc
import Derived.Test.YtpbaolijacimjaaDoorRows
import Derived.Test.YtpbaolijacimjaaDoorTie
import Derived.Lib.LaidTab
import Derived.LaidLaws
import Derived.OpenShut
import Derived.Stop.Joined
import Derived.ProofKit
import Derived.Deep.Slices
import Derived.Deep.Strs
set_option linter.unusedVariables false
namespace Go.Proofs
open Go.RowKit
theorem Tryd.Bi_size : (Tryd.prog.info? 112).map (·.size) = some 2 := by kernel_rfl
theorem Tryd.Bi_lies : liesAt Tryd.prog Tryd.prog.depth 112 (2 / Tryd.prog.cellsOf 112) 0 112 1 = true := by kernel_rfl
theorem Tryd.Bi_byte : (Tryd.prog.info? 5).map (fun i => (i.zero, i.size, i.bytes)) = some (some (.int .u8 0), 1, 1) := by kernel_rfl
theorem Tryd.Bi_cells : Tryd.prog.cellsOf 5 = 1 := by kernel_rfl
theorem Tryd.Bi_ne : 112 ≠ 5 := by decide

set_option maxHeartbeats 1000000 in
set_option maxRecDepth 100000 in
theorem Tryd.Builder_copyCheck_used (b : Nat) (w : World) (h0 : w.cell? ⟨b, 0, none⟩ = some (.pointer (some ⟨b, 0, none⟩))) :
    Calls Tryd.prog 95 #[.pointer (some ⟨b, 0, none⟩)] w fun e w' => e = .returned (.tuple #[]) ∧ w' = w := by
  obtain ⟨j, hj, _⟩ := Option.map_eq_some_iff.1 Tryd.Bi_size
  go_enter Tryd.func95, Tryd.ntmps95
  go_wp2
  rw [Lib.run_neq_ptr_same w _ Tryd.underlying110 hj]
  go_wp2
  go_end0
  exact ⟨rfl, rfl⟩

set_option maxHeartbeats 1000000 in
set_option maxRecDepth 100000 in
theorem Tryd.Builder_copyCheck_fresh (b : Nat) (w : World) (h0 : w.cell? ⟨b, 0, none⟩ = some (.pointer none)) (hsh : w.shape? b = some (112, 2)) (hfz : w.frozen? ⟨b, 0, none⟩ = false) :
    Calls Tryd.prog 95 #[.pointer (some ⟨b, 0, none⟩)] w fun e w' => e = .returned (.tuple #[]) ∧ w' = w.setCell ⟨b, 0, none⟩ (.pointer (some ⟨b, 0, none⟩)) := by
  obtain ⟨j, hj, hjs⟩ := Option.map_eq_some_iff.1 Tryd.Bi_size
  go_enter Tryd.func95, Tryd.ntmps95
  go_wp2
  rw [Lib.run_to_unsafe w ⟨b, 0, none⟩ Tryd.underlying110 Tryd.underlying152 hj (by rw [hjs]; decide) hsh (Nat.zero_lt_succ 1)]
  simp only [Result.andThen]
  rw [Oper.upon_value]
  go_wp2
  rw [run_callFunc_extern Tryd.func108 (by kernel_rfl) (by kernel_rfl) (by kernel_rfl) (e := Extern.AbiNoEscape.same) (by kernel_rfl)]
  rw [Lib.run_noEscape]
  simp only [Result.andThen]
  rw [Oper.upon_value]
  go_wp2
  rw [Lib.run_from_unsafe w ⟨b, 0, none⟩ Tryd.underlying152 Tryd.underlying110 hj hsh Tryd.Bi_lies]
  simp only [Result.andThen]
  rw [Oper.upon_value]
  go_wp2
  go_end0
  exact ⟨rfl, rfl⟩

theorem Tryd.Builder_copyCheck (B b : Nat) (bs : List Value) (w : World) (h : Lib.IsBuilder 112 5 B b bs w) :
    Calls Tryd.prog 95 #[.pointer (some ⟨b, 0, none⟩)] w fun e w' => e = .returned (.tuple #[]) ∧ (Lib.BuilderAt 112 5 B b (.pointer (some ⟨b, 0, none⟩)) bs w' ∧ Below B w w') := by
  rcases h with h | h
  · refine (Tryd.Builder_copyCheck_fresh  b w h.cell0 h.shape h.frozen0).mono ?_
    rintro e w' ⟨rfl, rfl⟩
    exact ⟨rfl, h.used _, (Below.refl B w).setCell (p := ⟨b, 0, none⟩) h.1 _⟩
  · refine (Tryd.Builder_copyCheck_used  b w h.cell0).mono ?_
    rintro e w' ⟨rfl, rfl⟩
    exact ⟨rfl, h, Below.refl B _⟩

set_option maxHeartbeats 2000000 in
set_option maxRecDepth 100000 in
theorem Tryd.Builder_WriteString (B b : Nat) (bs : List Value) (s : ByteArray) (w : World) (h : Lib.IsBuilder 112 5 B b bs w) (hlen : bs.length + s.size ≤ 140737488355328) (hBw : B ≤ w.heap.size) :
    Calls Tryd.prog 76 #[.pointer (some ⟨b, 0, none⟩), .string s] w fun e w' => e = .returned (.tuple #[.int .i64 s.size, .nilIface]) ∧ (Lib.BuilderAt 112 5 B b (.pointer (some ⟨b, 0, none⟩)) (bs ++ Lib.strCells s) w' ∧ Below B w w') := by
  obtain ⟨i0, hi, hz0, hz1, hz2⟩ := info_parts Tryd.Bi_byte
  go_enter Tryd.func76, Tryd.ntmps76
  go_wp2_with (go_at_call 95; refine (Tryd.Builder_copyCheck  B b bs _ h).mono ?_)
  rintro e w1 ⟨rfl, h1, hb1⟩
  obtain ⟨hB, v, hbk, hown, hne⟩ := h1
  have c0 : w1.cell? ⟨b, 0, none⟩ = some (.pointer (some ⟨b, 0, none⟩)) := by rw [Lib.cell_of_heap hbk]; rfl
  have c1 : w1.cell? ⟨b, 1, none⟩ = some v := by rw [Lib.cell_of_heap hbk]; rfl
  go_wp2_with (at_builtin; refine Lib.wpList_append_own_string _ rfl _ _ 42 9 rfl B 5 i0 Tryd.underlying42 Tryd.underlying9 hi hz0 hz1 hz2 _ _ _ rfl hown s rfl ?c3 ?c4 ?c5 ?_)
  case c3 => unfold maxLen; omega
  case c4 => omega
  case c5 => have := hb1.size; omega
  intro v' w2 hown' hgrow _
  have hlt : b < w1.heap.size := by
    rcases Nat.lt_or_ge b w1.heap.size with h' | h'
    · exact h'
    · simp [Array.getElem?_eq_none h'] at hbk
  have hb2 : w2.heap[b]? = some (.cells #[.pointer (some ⟨b, 0, none⟩), v] 112 (0, 0)) := by
    rw [hgrow.block b hlt (fun e => hne e.symm)]
    exact hbk
  have d0 : w2.cell? ⟨b, 0, none⟩ = some (.pointer (some ⟨b, 0, none⟩)) := by rw [Lib.cell_of_heap hb2]; rfl
  have d1 : w2.cell? ⟨b, 1, none⟩ = some v := by rw [Lib.cell_of_heap hb2]; rfl
  have f1 : w2.frozen? ⟨b, 1, none⟩ = false := Lib.frozen_of_heap hb2 1
  obtain ⟨ao, n', cap, rfl⟩ : ∃ ao n' cap, v' = .slice ao n' cap := by
    rcases hown'.2 with ⟨hv, _⟩ | ⟨g, cap, cur, hv, _⟩
    · exact ⟨_, _, _, hv⟩
    · exact ⟨_, _, _, hv⟩
  go_wp2
  go_ret2
  refine ⟨rfl, ?_, ?_⟩
  · exact Lib.BuilderAt.put (T := 112) (e := 5) hB hb2 (bs' := bs ++ Lib.strCells s) (by simpa [Lib.strCells_length] using hown') Tryd.Bi_ne
  · exact (hb1.grown hgrow (by have := hb1.size; omega) (fun k hk => (hown.lt k hk).1)).setCell (p := ⟨b, 1, none⟩) hB _

set_option maxHeartbeats 1000000 in
set_option maxRecDepth 100000 in
theorem Tryd.Builder_String (B b : Nat) (l : List UInt8) (w : World) (h : Lib.IsBuilder 112 5 B b (Lib.byteCells l) w) (h0 : l ≠ []) :
    Calls Tryd.prog 77 #[.pointer (some ⟨b, 0, none⟩)] w fun e w' => e = .returned (.string ⟨l.toArray⟩) ∧ Below B w w' := by
  obtain ⟨p, hB, v, hbk, hown, hne⟩ : ∃ p, Lib.BuilderAt 112 5 B b p (Lib.byteCells l) w := by
    rcases h with h | h
    · exact ⟨_, h⟩
    · exact ⟨_, h⟩
  have hl0 : l.length ≠ 0 := by simpa using h0
  rw [Lib.byteCells_length] at hown
  obtain ⟨g, cap, cur, rfl, hbg, hg, hnc, hcm, hcs, htake⟩ : ∃ g cap cur, v = .slice (some ⟨g, 0, none⟩) l.length cap ∧ B ≤ g ∧ w.heap[g]? = some (.cells cur 5 (0, 0)) ∧ l.length ≤ cap ∧ cap ≤ maxLen ∧ cur.size = cap * 1 ∧ cur.toList.take (l.length * 1) = Lib.byteCells l := by
    rcases hown.2 with ⟨_, hz⟩ | ⟨g, cap, cur, hv, r⟩
    · exact absurd hz hl0
    · exact ⟨g, cap, cur, hv, r⟩
  have c1 : w.drew.cell? ⟨b, 1, none⟩ = some (.slice (some ⟨g, 0, none⟩) l.length cap) := by
    have : w.drew.heap[b]? = some (.cells #[p, .slice (some ⟨g, 0, none⟩) l.length cap] 112 (0, 0)) := hbk
    rw [Lib.cell_of_heap this]; rfl
  have hSD : (Builtin.unsafeSliceData_ #[42] 135 #[.slice (some ⟨g, 0, none⟩) l.length cap]).run Tryd.prog w.drew = .ok (.pointer (some ⟨g, 0, none⟩)) w.drew :=
    Lib.run_unsafeSliceData_row _ _ _ _ _ _ (by omega)
  have hUS : (Builtin.unsafeString_ #[135, 3] 9 #[.pointer (some ⟨g, 0, none⟩), .int .i64 l.length]).run Tryd.prog w.drew = .ok (.string ⟨l.toArray⟩) (w.drew.freeze ⟨g, 0, none⟩ l.length) := by
    refine Lib.run_unsafeString_row w.drew 135 3 9 5 Tryd.underlying135 Tryd.Bi_cells g cur.size (by have hg' : w.drew.heap[g]? = some (.cells cur 5 (0, 0)) := hg; simp [World.shape?, hg']) l h0 (by omega) (by unfold maxLen at hcm; omega) ?_
    intro j x hx
    have := hown.cells (g := g) rfl j (.int .u8 x.toNat) (by simp [Lib.byteCells, hx])
    exact this
  go_enter Tryd.func77, Tryd.ntmps77
  go_wp2
  go_region
  all_goals (go_wp2; go_ret; exact ⟨rfl, Lib.below_freeze (Below.drew (Below.refl B w)) (p := ⟨g, 0, none⟩) hbg _⟩)

theorem Tryd.unsafeString_none (W : World) (q : Option Addr) : (Builtin.unsafeString_ #[135, 3] 9 #[.pointer q, .int .i64 0]).run Tryd.prog W = .ok (.string .empty) W :=
  Lib.run_unsafeString_none W _ _ _ q

set_option maxHeartbeats 2000000 in
set_option maxRecDepth 100000 in
theorem Tryd.Builder_String_nil (B b : Nat) (p : Value) (w : World) (hbk : w.heap[b]? = some (.cells #[p, .slice none 0 0] 112 (0, 0))) :
    Calls Tryd.prog 77 #[.pointer (some ⟨b, 0, none⟩)] w fun e w' => e = .returned (.string ⟨#[]⟩) ∧ Below B w w' := by
  have hUS := Tryd.unsafeString_none 
  have c1 : w.drew.cell? ⟨b, 1, none⟩ = some (.slice none 0 0) := by
    have : w.drew.heap[b]? = some (.cells #[p, .slice none 0 0] 112 (0, 0)) := hbk
    rw [Lib.cell_of_heap this]; rfl
  have hSD : (Builtin.unsafeSliceData_ #[42] 135 #[.slice none 0 0]).run Tryd.prog w.drew = .ok (.pointer none) w.drew := rfl
  go_enter Tryd.func77, Tryd.ntmps77
  go_wp2
  go_region
  all_goals (go_wp2; go_ret; exact ⟨rfl, Below.drew (Below.refl B w)⟩)

set_option maxHeartbeats 2000000 in
set_option maxRecDepth 100000 in
theorem Tryd.Builder_String_noroom (B b g : Nat) (p : Value) (cur : Array Value) (w : World) (hBw : B ≤ w.heap.size) (hbk : w.heap[b]? = some (.cells #[p, .slice (some ⟨g, 0, none⟩) 0 0] 112 (0, 0))) (hg : w.heap[g]? = some (.cells cur 5 (0, 0))) :
    Calls Tryd.prog 77 #[.pointer (some ⟨b, 0, none⟩)] w fun e w' => e = .returned (.string ⟨#[]⟩) ∧ Below B w w' := by
  have hUS := Tryd.unsafeString_none 
  have hlt : b < w.heap.size := by
    rcases Nat.lt_or_ge b w.heap.size with h' | h'
    · exact h'
    · simp [Array.getElem?_eq_none h'] at hbk
  have c1 : w.drew.cell? ⟨b, 1, none⟩ = some (.slice (some ⟨g, 0, none⟩) 0 0) := by
    have : w.drew.heap[b]? = some (.cells #[p, .slice (some ⟨g, 0, none⟩) 0 0] 112 (0, 0)) := hbk
    rw [Lib.cell_of_heap this]; rfl
  have hSD : (Builtin.unsafeSliceData_ #[42] 135 #[.slice (some ⟨g, 0, none⟩) 0 0]).run Tryd.prog w.drew = .ok (.pointer (some ⟨w.drew.heap.size, 0, none⟩)) (w.drew.alloc (.view ⟨g, 0, none⟩ 5)) :=
    Lib.run_unsafeSliceData_zero w.drew _ _ 5 Tryd.underlying135 ⟨g, 0, none⟩ 0 (5, cur.size) (by have hg' : w.drew.heap[g]? = some (.cells cur 5 (0, 0)) := hg; simp [World.shape?, hg'])
  have c2 : (w.drew.alloc (.view ⟨g, 0, none⟩ 5)).cell? ⟨b, 1, none⟩ = some (.slice (some ⟨g, 0, none⟩) 0 0) := by
    have : (w.drew.alloc (.view ⟨g, 0, none⟩ 5)).heap[b]? = _ := (Lib.alloc_old w.drew _ b hlt).trans hbk
    rw [Lib.cell_of_heap this]; rfl
  -- (the same fact as the how-to's newer walk spells the world; and of w itself, to which the elder walk comes down)
  have c3 : (w.alloc (.view ⟨g, 0, none⟩ 5)).drew.cell? ⟨b, 1, none⟩ = some (.slice (some ⟨g, 0, none⟩) 0 0) := c2
  have c0 : w.cell? ⟨b, 1, none⟩ = some (.slice (some ⟨g, 0, none⟩) 0 0) := c1
  go_enter Tryd.func77, Tryd.ntmps77
  go_wp2
  go_region
  all_goals (go_wp2; go_ret; exact ⟨rfl, (Below.drew (Below.refl B w)).alloc hBw _⟩)

set_option maxHeartbeats 2000000 in
set_option maxRecDepth 100000 in
theorem Tryd.Builder_String_room (B b g cap : Nat) (p : Value) (w : World) (hc0 : cap ≠ 0) (hbk : w.heap[b]? = some (.cells #[p, .slice (some ⟨g, 0, none⟩) 0 cap] 112 (0, 0))) :
    Calls Tryd.prog 77 #[.pointer (some ⟨b, 0, none⟩)] w fun e w' => e = .returned (.string ⟨#[]⟩) ∧ Below B w w' := by
  have hUS := Tryd.unsafeString_none 
  have c1 : w.drew.cell? ⟨b, 1, none⟩ = some (.slice (some ⟨g, 0, none⟩) 0 cap) := by
    have : w.drew.heap[b]? = some (.cells #[p, .slice (some ⟨g, 0, none⟩) 0 cap] 112 (0, 0)) := hbk
    rw [Lib.cell_of_heap this]; rfl
  have hSD : (Builtin.unsafeSliceData_ #[42] 135 #[.slice (some ⟨g, 0, none⟩) 0 cap]).run Tryd.prog w.drew = .ok (.pointer (some ⟨g, 0, none⟩)) w.drew :=
    Lib.run_unsafeSliceData_row _ _ _ _ _ _ hc0
  clear hc0
  go_enter Tryd.func77, Tryd.ntmps77
  go_wp2
  go_region
  all_goals (go_wp2; go_ret; exact ⟨rfl, Below.drew (Below.refl B w)⟩)

theorem Tryd.Builder_String_empty (B b : Nat) (w : World) (h : Lib.IsBuilder 112 5 B b [] w) (hBw : B ≤ w.heap.size) :
    Calls Tryd.prog 77 #[.pointer (some ⟨b, 0, none⟩)] w fun e w' => e = .returned (.string ⟨#[]⟩) ∧ Below B w w' := by
  obtain ⟨p, hB, v, hbk, hown, hne⟩ : ∃ p, Lib.BuilderAt 112 5 B b p [] w := by
    rcases h with h | h
    · exact ⟨_, h⟩
    · exact ⟨_, h⟩
  rcases hown.2 with ⟨rfl, _⟩ | ⟨g, cap, cur, rfl, hbg, hg, _, _, _, _⟩
  · exact Tryd.Builder_String_nil  B b p w hbk
  · by_cases hc0 : cap = 0
    · subst hc0
      exact Tryd.Builder_String_noroom  B b g p cur w hBw hbk hg
    · exact Tryd.Builder_String_room  B b g cap p w hc0 hbk

theorem Tryd.Builder_String_any (B b : Nat) (l : List UInt8) (w : World) (h : Lib.IsBuilder 112 5 B b (Lib.byteCells l) w) (hBw : B ≤ w.heap.size) :
    Calls Tryd.prog 77 #[.pointer (some ⟨b, 0, none⟩)] w fun e w' => e = .returned (.string ⟨l.toArray⟩) ∧ Below B w w' := by
  cases l with
  | nil => exact Tryd.Builder_String_empty  B b w h hBw
  | cons x r => exact Tryd.Builder_String  B b (x :: r) w h (by simp)

end Go.Proofs

set_option linter.unusedSimpArgs false
/- LAYER 4: tags. -/
namespace Go.Proofs.YtpbaolijacimjaaDoor
open Go.RowKit Go.Proofs.YtpbaolijacimjaaDoorW.PrintWords
def catB (l : List ByteArray) : ByteArray := l.foldl (· ++ ·) ⟨#[]⟩
theorem catB_snoc (l : List ByteArray) (x : ByteArray) : catB (l ++ [x]) = catB l ++ x := by unfold catB; rw [List.foldl_append]; rfl
theorem catB_one (a : ByteArray) : catB [a] = a := nil_app a
theorem catB_two (a b : ByteArray) : catB [a, b] = a ++ b := by
  show (⟨#[]⟩ ++ a) ++ b = a ++ b
  rw [nil_app]
theorem words_nil (f : Nat → W32) (l : List ByteArray) : wordsF f (catB (l.take 0)) = f := by
  have h : (catB (l.take 0)).size = 0 := rfl
  unfold wordsF
  rw [h]
  rfl
theorem left_nil (l : List ByteArray) : leftF (catB (l.take 0)) = ⟨#[]⟩ := by
  show leftF ⟨#[]⟩ = _
  decide
theorem add_nil (l : List ByteArray) : addM 0 (catB (l.take 0)).size = 0 := rfl
attribute [local irreducible] Calls mixF
set_option maxHeartbeats 4000000 in
set_option maxRecDepth 100000 in
theorem of_any (A : Option Addr) (c : Nat) (l : List ByteArray) (w : World) (hC : Kd.string.C w A l.length l) (hl : l.length ≤ 100) (hs : ∀ x ∈ l, x.size ≤ 100000) (hK : KeysAt w) :
    Calls Tryd.prog 55 #[.slice A l.length c] w fun e w' => e = .returned (.string (shaF (catB l))) ∧ Below w.heap.size w w' := by
  have HK := Lib.hid (fun w1 (hg : Gr w w1) => hK.up hg)
  have HC := Lib.hid (fun w1 (hg : Gr w w1) => Kd.C_below hC hg)
  have HS := Lib.hid hs
  clear hK hC hs
  go_enter Tryd.func55, Tryd.ntmps55
  go_wp2_with fail
  refine (New_any _).mono ?_
  rintro e w1 ⟨⟨g, _, rfl, hR⟩, hb⟩
  have HO := ((Own.start w).up hb).alloc' (.cells #[.slice (some ⟨g, 0, none⟩) 8 8, .string ⟨#[]⟩, .int .u64 0] 98) rfl
  replace hR := hR.up (below_alloc (Below.refl _ _) (.cells #[.slice (some ⟨g, 0, none⟩) 8 8, .string ⟨#[]⟩, .int .u64 0] 98))
  clear hb
  unfold hashV
  go_wp2_with fail
  generalize w1.heap.size = bx at *
  generalize World.alloc w1 _ = w2 at *
  have HRR := Lib.hid hR
  clear hR
  go_loopw [11] (fun c11 wr => ∃ (k g : Nat), c11 = .int .i64 (k : Int) ∧ Aside0 (k ≤ l.length ∧ Row8 wr (some ⟨g, 0, none⟩) (wordsF ivF (catB (l.take k)))) ∧ Own w [(bx, .cells #[.slice (some ⟨g, 0, none⟩) 8 8, .string (leftF (catB (l.take k))), .int .u64 (addM 0 (catB (l.take k)).size : Nat)] 98 (0, 0))] wr) (fun c11 _ => l.length - (intOf c11).toNat)
  case atStart => exact ⟨0, g, rfl, ⟨by omega, by rw [words_nil]; exact HRR.out⟩, by rw [left_nil, add_nil]; exact HO⟩
  case round =>
    clear HO HRR
    obtain ⟨k, g, rfl, Hk, HO⟩ := hrel
    by_cases hlt : k < l.length
    · have i0 : (0 : Int) ≤ (k : Int) := by omega
      have i1 : (k : Int) < (l.length : Int) := by omega
      have i2 : (l.length : Int) ≤ 100 := by omega
      obtain ⟨ad, hA, hc⟩ := Kd.at_string (HC.out _ HO.below) (k : Int) i0 i1
      subst hA
      rw [Int.toNat_natCast] at hc
      have hx : rdOf ByteArray.empty l (k : Int) = l[k] := by
        unfold rdOf
        rw [Int.toNat_natCast, List.getD_eq_getElem?_getD, List.getElem?_eq_getElem hlt]
        rfl
      rw [hx] at hc
      have ht : l.take (k + 1) = l.take k ++ [l[k]] := by rw [List.take_add_one, List.getElem?_eq_getElem hlt]; rfl
      have hsz := HS.out _ (List.getElem_mem hlt)
      have HE1 := Lib.hid (show wordsF (wordsF ivF (catB (l.take k))) (leftF (catB (l.take k)) ++ l[k]) = wordsF ivF (catB (l.take (k + 1))) by rw [words_two, ht, catB_snoc])
      have HE2 := Lib.hid (show leftF (leftF (catB (l.take k)) ++ l[k]) = leftF (catB (l.take (k + 1))) by rw [left_two, ht, catB_snoc])
      have HE3 := Lib.hid (show addM (addM 0 (catB (l.take k)).size) (l[k]).size = addM 0 (catB (l.take (k + 1))).size by rw [addM_two, ht, catB_snoc, ByteArray.size_append])
      have HRi := Lib.hid (right_all (catB (l.take k)))
      have HR := Lib.hid Hk.out.2
      clear ht hx
      generalize l[k] = x at *
      generalize wordsF ivF (catB (l.take k)) = F at *
      generalize leftF (catB (l.take k)) = lf at *
      generalize addM 0 (catB (l.take k)).size = m at *
      clear Hk
      have c0 := HO.cell 0 rfl
      go_wp2_with fail
      clear c0 hc
      refine (Write_yes _ 8 F lf x m _ HR.out (HK.out _ HO.below) HRi.out hsz).mono ?_
      rintro e w3 ⟨⟨g3, _, rfl, hR3⟩, hb⟩
      replace HO := HO.up hb
      clear hb HR
      rw [HE1.out] at hR3
      rw [HE2.out, HE3.out]
      unfold hashV
      generalize hff : wordsF ivF (catB (l.take (k + 1))) = F' at *
      have HFF := Lib.hid hff
      clear hff
      generalize hlf : leftF (catB (l.take (k + 1))) = lf' at *
      generalize hmm : addM 0 (catB (l.take (k + 1))).size = m' at *
      have HLF := Lib.hid hlf
      have HMM := Lib.hid hmm
      clear hlf hmm
      have c0 := HO.cell 0 rfl
      have f0 := HO.frozen 0 rfl
      have hne := row8_ne hR3 (HO.cell 0 rfl 0)
      go_wp2
      clear c0 f0
      replace HO := HO.set' 0 rfl 0 (.slice (some ⟨g3, 0, none⟩) 8 8) (L' := [(bx, .cells #[(.slice (some ⟨g3, 0, none⟩) 8 8), (.string lf), (.int .u64 (m : Nat))] 98 (0, 0))]) rfl
      replace HO := HO.set' 0 rfl 1 (.string lf') (L' := [(bx, .cells #[(.slice (some ⟨g3, 0, none⟩) 8 8), (.string lf'), (.int .u64 (m : Nat))] 98 (0, 0))]) rfl
      replace HO := HO.set' 0 rfl 2 (.int .u64 (m' : Nat)) (L' := [(bx, .cells #[(.slice (some ⟨g3, 0, none⟩) 8 8), (.string lf'), (.int .u64 (m' : Nat))] 98 (0, 0))]) rfl
      go_roundw
      case rel => exact ⟨k + 1, g3, by go_num, ⟨by omega, by rw [HFF.out]; exact ((hR3.set hne).set hne).set hne⟩, by rw [HLF.out, HMM.out]; exact HO⟩
      case measure => simp [intOf]; omega
    · obtain rfl : k = l.length := by have := Hk.out.1; omega
      have HR := Lib.hid Hk.out.2
      clear Hk
      rw [List.take_length] at *
      have i1 : ¬ ((l.length : Int) < (l.length : Int)) := by omega
      have c0 := HO.cell 0 rfl
      go_wp2_with fail
      clear c0
      refine (Sum_yes _ 8 _ _ _ _ HR.out (HK.out _ HO.below) (right_all _)).mono ?_
      rintro e w3 ⟨hS, hb⟩
      unfold SumR at hS
      subst hS
      replace HO := HO.up hb
      go_wp2
      go_ret
      exact ⟨rfl, HO.below⟩
end Go.Proofs.YtpbaolijacimjaaDoor

set_option linter.unusedSimpArgs false
/- LAYER 4: padded keys, tags. -/
namespace Go.Proofs.YtpbaolijacimjaaDoor
open Go.RowKit Go.Proofs.YtpbaolijacimjaaDoorW.PrintWords
/-- the first i bytes are xor c -/
def xl (L : List Nat) (c i : Nat) : List Nat := (L.take i).map (· ^^^ c) ++ L.drop i
theorem xl_len (L : List Nat) (c i : Nat) : (xl L c i).length = L.length := by
  unfold xl
  rw [List.length_append, List.length_map, ← List.length_append, List.take_append_drop]
theorem xl_get (L : List Nat) (c i b : Nat) (h : L[i]? = some b) : (xl L c i)[i]? = some b := by
  have hi := (List.getElem?_eq_some_iff.1 h).1
  unfold xl
  rw [List.getElem?_append_right (by rw [List.length_map, List.length_take]; omega), List.length_map, List.length_take, List.getElem?_drop, show i + (i - min i L.length) = i by omega]
  exact h
theorem xl_succ (L : List Nat) (c i b : Nat) (h : L[i]? = some b) : xl L c (i + 1) = (xl L c i).set i (b ^^^ c) := by
  have hi := (List.getElem?_eq_some_iff.1 h).1
  have hd : L.drop i = b :: L.drop (i + 1) := by
    rw [List.drop_eq_getElem_cons hi]
    rw [List.getElem?_eq_getElem hi] at h
    rw [Option.some.inj h]
  have hl : ((L.take i).map (· ^^^ c)).length = i := by rw [List.length_map, List.length_take]; omega
  unfold xl
  rw [List.take_add_one, h, hd, List.set_append_right _ _ (by omega), hl, Nat.sub_self]
  simp
theorem xl_all (L : List Nat) (c : Nat) : xl L c L.length = L.map (· ^^^ c) := by
  unfold xl
  rw [List.take_length, List.drop_length, List.append_nil]
/-- a key of not more than 64 bytes -/
def keyB (key : ByteArray) : ByteArray := if 64 < key.size then shaF key else key
def kbB (key : ByteArray) : ByteArray := keyB key ++ ⟨(Lib.repeatL [0] (64 - (keyB key).size)).toArray⟩
def padB (key : ByteArray) (c : Nat) : ByteArray := bStr ((bOf (kbB key)).map (· ^^^ c))
theorem shaF_size (s : ByteArray) : (shaF s).size = 32 := by unfold shaF sumF textF; rw [strOfNums_size, outI_len]
theorem keyB_size (key : ByteArray) : (keyB key).size ≤ 64 := by
  unfold keyB
  split
  · rw [shaF_size]; omega
  · omega
theorem kbB_size (key : ByteArray) : (kbB key).size = 64 := by
  have := keyB_size key
  unfold kbB
  rw [ByteArray.size_append]
  show _ + (Lib.repeatL [0] (64 - (keyB key).size)).toArray.size = 64
  simp [Lib.repeatL_length]; omega
theorem padB_size (key : ByteArray) (c : Nat) : (padB key c).size = 64 := by unfold padB; rw [bStr_size, List.length_map, bOf_len, kbB_size]
theorem C_lit_str (W : World) (e : TypeId) (l : List ByteArray) (hl : l.length ≤ 1000) : Kd.string.C (W.alloc (.cells (l.map Value.string).toArray e)) (some ⟨W.heap.size, 0, none⟩) l.length l :=
  (Kd.R_reads' (show Kd.string.R e (W.alloc (.cells (l.map Value.string).toArray e)) W.heap.size (fun _ => True) (.slice (some ⟨W.heap.size, 0, none⟩) l.length l.length) l from R_new_lit W W.heap.size e l (Nat.le_refl _) (by omega))).2.2
attribute [local irreducible] Calls mixF
set_option maxHeartbeats 4000000 in
set_option maxRecDepth 100000 in
theorem padded_any (key : ByteArray) (c : Nat) (hc : c < 256) (w : World) (hs : key.size ≤ 100000) (hK : KeysAt w) :
    Calls Tryd.prog 56 #[.string key, .int .u8 (c : Int)] w fun e w' => e = .returned (.string (padB key c)) ∧ Below w.heap.size w w' := by
  have hks := keyB_size key
  have HLen := Lib.hid (show (bOf (kbB key)).length = 64 by rw [bOf_len, kbB_size])
  have HLt := Lib.hid (bOf_lt (kbB key))
  have HKB := Lib.hid (show bOf (keyB key ++ ⟨(Lib.repeatL [0] (64 - (keyB key).size)).toArray⟩) = bOf (kbB key) from rfl)
  rw [show padB key c = bStr ((bOf (kbB key)).map (· ^^^ c)) from rfl]
  generalize bOf (kbB key) = L at *
  have HB := Lib.hid (Below.refl w.heap.size w)
  by_cases h64 : 64 < key.size
  · have hcmp : (key.size : Int) > 64 := by omega
    have HKey := Lib.hid (show keyB key = shaF key by unfold keyB; rw [if_pos h64])
    have ho := of_any (some ⟨w.heap.size, 0, none⟩) 1 [key] (w.alloc (.cells #[.string key] 9)) (C_lit_str w 9 [key] (show 1 ≤ 1000 by decide)) (show 1 ≤ 100 by decide) (by intro x hx; obtain rfl := List.mem_singleton.1 hx; exact hs) (hK.up (below_alloc (Below.refl _ _) _))
    rw [catB_one] at ho
    rw [HKey.out] at hks
    have HO := Lib.hid ho
    clear hK ho
    generalize hsh : shaF key = K at *
    clear hsh
    go_enter Tryd.func56, Tryd.ntmps56
    go_wp2_with fail
    refine (HO.out).mono ?_
    rintro e w2 ⟨rfl, hb⟩
    replace HB := Lib.hid (below_step (below_alloc HB.out (.cells #[.string key] 9)) hb)
    clear hb HO
    have hk64 : K.size ≤ 64 := by omega
    rw [HKey.out] at HKB
    obtain ⟨z, hzz⟩ : ∃ z, z = 64 - K.size := ⟨_, rfl⟩
    rw [← hzz] at HKB
    have hz : ((64 : Int) - (K.size : Int)) = (z : Int) := by omega
    have hz3 : z ≤ 64 := by omega
    have HZ := Lib.hid (show K.size + z = 64 by omega)
    clear hzz
    go_wp2_with fail
    refine (Tryd.strings_Repeat ⟨#[0]⟩ z _ (by omega) (by simp [ByteArray.size]; omega)).mono ?_
    rintro e w3 ⟨rfl, hb⟩
    replace HB := Lib.hid (HB.out.trans (Below.mono hb HB.out.size))
    clear hb
    have hcat : ¬ (K.size + (⟨(Lib.repeatL [0] z).toArray⟩ : ByteArray).size > 9223372036854775807) := by
      show ¬ (K.size + (Lib.repeatL [0] z).toArray.size > _)
      rw [List.size_toArray, Lib.repeatL_length]; show ¬ (_ + z * 1 > _); omega
    go_wp2_with ((with_reducible refine wpList_by rfl (.tmp 18) rfl (K ++ ⟨(Lib.repeatL [0] z).toArray⟩) rfl ?_); intro g cp w4 hg HR hb; have Hge := Aside0.mk (show w.heap.size ≤ g by have := HB.out.size; omega); clear hg; replace HB := Lib.hid (HB.out.trans (Below.mono hb HB.out.size)); clear hb; rw [HKB.out] at HR ⊢; rw [HLen.out])
    clear hcat hz
    have HR0 := Lib.hid (show ByRow w4 g (xl L c 0) from HR)
    clear HR
    go_loopw [22] (fun c22 wr => ∃ i : Nat, c22 = .int .i64 (i : Int) ∧ Aside0 (i ≤ 64) ∧ Aside0 (ByRow wr g (xl L c i)) ∧ Aside0 (Below w.heap.size w wr)) (fun c22 _ => 64 - (intOf c22).toNat)
    case atStart => exact ⟨0, rfl, ⟨by omega⟩, ⟨HR0.out⟩, ⟨HB.out⟩⟩
    case round =>
      clear HB HR0
      obtain ⟨i, rfl, Hi, HR, HB⟩ := hrel
      by_cases hlt : i < 64
      · have i0 : (0 : Int) ≤ (i : Int) := by omega
        have i1 : (i : Int) < 64 := by omega
        have hl := HLen.out
        obtain ⟨b, hb⟩ : ∃ n, L[i]? = some n := ⟨_, List.getElem?_eq_getElem (by omega)⟩
        have hb256 := HLt.out b (List.mem_of_getElem? hb)
        have HX := Lib.hid (xl_succ L c i b hb)
        have hxi := xl_get L c i b hb
        have hxl := xl_len L c i
        have c0 := HR.out.cell hxi
        have f0 := HR.out.frozen (j := i) (by rw [hxl]; omega)
        have hx8 := xor8 b c hb256 hc
        clear hl hb hxi
        go_wp2
        replace HR := Aside0.mk (HR.out.set i (b ^^^ c) (by rw [hxl]; have := HLen.out; omega))
        rw [← HX.out] at HR
        go_roundw
        case rel => exact ⟨i + 1, by go_num, ⟨by omega⟩, HR, ⟨below_set HB.out Hge.out⟩⟩
        case measure => simp [intOf]; omega
      · obtain rfl : i = 64 := by have := Hi.out; omega
        have hcv := HR.out.conv (by rw [xl_len, HLen.out]; omega) cp
        rw [xl_len, HLen.out] at hcv
        have HX := Lib.hid (xl_all L c)
        rw [HLen.out] at HX
        rw [HX.out] at hcv
        go_wp2
        go_ret
        exact ⟨rfl, HB.out⟩
  · have hcmp : ¬ ((key.size : Int) > 64) := by omega
    have HKey := Lib.hid (show keyB key = key by unfold keyB; rw [if_neg h64])
    rw [HKey.out] at hks
    clear hK
    generalize key = K at *
    go_enter Tryd.func56, Tryd.ntmps56
    have hk64 : K.size ≤ 64 := by omega
    rw [HKey.out] at HKB
    obtain ⟨z, hzz⟩ : ∃ z, z = 64 - K.size := ⟨_, rfl⟩
    rw [← hzz] at HKB
    have hz : ((64 : Int) - (K.size : Int)) = (z : Int) := by omega
    have hz3 : z ≤ 64 := by omega
    have HZ := Lib.hid (show K.size + z = 64 by omega)
    clear hzz
    go_wp2_with fail
    refine (Tryd.strings_Repeat ⟨#[0]⟩ z _ (by omega) (by simp [ByteArray.size]; omega)).mono ?_
    rintro e w3 ⟨rfl, hb⟩
    replace HB := Lib.hid (HB.out.trans (Below.mono hb HB.out.size))
    clear hb
    have hcat : ¬ (K.size + (⟨(Lib.repeatL [0] z).toArray⟩ : ByteArray).size > 9223372036854775807) := by
      show ¬ (K.size + (Lib.repeatL [0] z).toArray.size > _)
      rw [List.size_toArray, Lib.repeatL_length]; show ¬ (_ + z * 1 > _); omega
    go_wp2_with ((with_reducible refine wpList_by rfl (.tmp 18) rfl (K ++ ⟨(Lib.repeatL [0] z).toArray⟩) rfl ?_); intro g cp w4 hg HR hb; have Hge := Aside0.mk (show w.heap.size ≤ g by have := HB.out.size; omega); clear hg; replace HB := Lib.hid (HB.out.trans (Below.mono hb HB.out.size)); clear hb; rw [HKB.out] at HR ⊢; rw [HLen.out])
    clear hcat hz
    have HR0 := Lib.hid (show ByRow w4 g (xl L c 0) from HR)
    clear HR
    go_loopw [22] (fun c22 wr => ∃ i : Nat, c22 = .int .i64 (i : Int) ∧ Aside0 (i ≤ 64) ∧ Aside0 (ByRow wr g (xl L c i)) ∧ Aside0 (Below w.heap.size w wr)) (fun c22 _ => 64 - (intOf c22).toNat)
    case atStart => exact ⟨0, rfl, ⟨by omega⟩, ⟨HR0.out⟩, ⟨HB.out⟩⟩
    case round =>
      clear HB HR0
      obtain ⟨i, rfl, Hi, HR, HB⟩ := hrel
      by_cases hlt : i < 64
      · have i0 : (0 : Int) ≤ (i : Int) := by omega
        have i1 : (i : Int) < 64 := by omega
        have hl := HLen.out
        obtain ⟨b, hb⟩ : ∃ n, L[i]? = some n := ⟨_, List.getElem?_eq_getElem (by omega)⟩
        have hb256 := HLt.out b (List.mem_of_getElem? hb)
        have HX := Lib.hid (xl_succ L c i b hb)
        have hxi := xl_get L c i b hb
        have hxl := xl_len L c i
        have c0 := HR.out.cell hxi
        have f0 := HR.out.frozen (j := i) (by rw [hxl]; omega)
        have hx8 := xor8 b c hb256 hc
        clear hl hb hxi
        go_wp2
        replace HR := Aside0.mk (HR.out.set i (b ^^^ c) (by rw [hxl]; have := HLen.out; omega))
        rw [← HX.out] at HR
        go_roundw
        case rel => exact ⟨i + 1, by go_num, ⟨by omega⟩, HR, ⟨below_set HB.out Hge.out⟩⟩
        case measure => simp [intOf]; omega
      · obtain rfl : i = 64 := by have := Hi.out; omega
        have hcv := HR.out.conv (by rw [xl_len, HLen.out]; omega) cp
        rw [xl_len, HLen.out] at hcv
        have HX := Lib.hid (xl_all L c)
        rw [HLen.out] at HX
        rw [HX.out] at hcv
        go_wp2
        go_ret
        exact ⟨rfl, HB.out⟩
end Go.Proofs.YtpbaolijacimjaaDoor

set_option linter.unusedSimpArgs false
/- LAYER 4: tags, expanded. -/
namespace Go.Proofs.YtpbaolijacimjaaDoor
open Go.RowKit Go.Proofs.YtpbaolijacimjaaDoorW.PrintWords
/-- a text's tag, by a key -/
def tagF (key s : ByteArray) : ByteArray := shaF (padB key 92 ++ shaF (padB key 54 ++ s))
theorem tagF_size (key s : ByteArray) : (tagF key s).size = 32 := shaF_size _
attribute [local irreducible] Calls mixF
set_option maxHeartbeats 4000000 in
set_option maxRecDepth 100000 in
theorem Tag_any (key s : ByteArray) (w : World) (hk : key.size ≤ 100000) (hs : s.size ≤ 100000) (hK : KeysAt w) :
    Calls Tryd.prog 42 #[.string key, .string s] w fun e w' => e = .returned (.string (tagF key s)) ∧ Below w.heap.size w w' := by
  have HP1 := Lib.hid (fun w1 (hg : Gr w w1) => padded_any key 92 (by decide) w1 hk (hK.up hg))
  have HP2 := Lib.hid (fun w1 (hg : Gr w w1) => padded_any key 54 (by decide) w1 hk (hK.up hg))
  have HF := Lib.hid (fun (a b : ByteArray) (ha : a.size ≤ 100000) (hb : b.size ≤ 100000) w1 (hg : Gr w w1) => by
    have := of_any (some ⟨w1.heap.size, 0, none⟩) 2 [a, b] (w1.alloc (.cells #[.string a, .string b] 9)) (C_lit_str w1 9 [a, b] (show 2 ≤ 1000 by decide)) (show 2 ≤ 100 by decide) (by intro x hx; rcases List.mem_cons.1 hx with rfl | hx; exact ha; obtain rfl := List.mem_singleton.1 hx; exact hb) ((hK.up hg).up (below_alloc (Below.refl _ _) _))
    rw [catB_two] at this
    exact this)
  have hp92 := padB_size key 92
  have hp54 := padB_size key 54
  have hsz := shaF_size (padB key 54 ++ s)
  unfold tagF
  clear hK
  generalize padB key 92 = p92 at *
  generalize padB key 54 = p54 at *
  have HA := Lib.hid (HF.out p54 s (by omega) hs)
  have HC := Lib.hid (HF.out p92 (shaF (p54 ++ s)) (by omega) (by omega))
  clear HF
  generalize shaF (p54 ++ s) = x at *
  generalize shaF (p92 ++ x) = y at *
  have HB := Lib.hid (Below.refl w.heap.size w)
  go_enter Tryd.func42, Tryd.ntmps42
  go_wp2_with fail
  refine (HP1.out _ HB.out).mono ?_
  rintro e w1 ⟨rfl, hb⟩
  replace HB := Lib.hid (below_step HB.out hb)
  clear hb
  go_wp2_with fail
  refine (HP2.out _ HB.out).mono ?_
  rintro e w1 ⟨rfl, hb⟩
  replace HB := Lib.hid (below_step HB.out hb)
  clear hb
  go_wp2_with fail
  refine (HA.out _ HB.out).mono ?_
  rintro e w1 ⟨rfl, hb⟩
  replace HB := Lib.hid (below_step (below_alloc HB.out _) hb)
  clear hb
  go_wp2_with fail
  refine (HC.out _ HB.out).mono ?_
  rintro e w1 ⟨rfl, hb⟩
  replace HB := Lib.hid (below_step (below_alloc HB.out _) hb)
  clear hb
  go_wp2
  go_ret
  exact ⟨rfl, HB.out⟩
theorem Builder_Len (B b : Nat) (bs : List Value) (w : World) (h : Lib.IsBuilder 112 5 B b bs w) :
    Calls Tryd.prog 75 #[.pointer (some ⟨b, 0, none⟩)] w fun e w' => e = .returned (.int .i64 bs.length) ∧ w' = w := by
  obtain ⟨p, hB, v, hbk, hown, hne⟩ : ∃ p, Lib.BuilderAt 112 5 B b p bs w := by
    rcases h with h | h
    · exact ⟨_, h⟩
    · exact ⟨_, h⟩
  have c1 : w.cell? ⟨b, 1, none⟩ = some v := by rw [Lib.cell_of_heap hbk]; rfl
  obtain ⟨A, c, rfl⟩ : ∃ A c, v = .slice A bs.length c := by
    rcases hown.2 with ⟨hv, hz⟩ | ⟨g, cap, cur, hv, _⟩
    · exact ⟨none, 0, by rw [hv, hz]⟩
    · exact ⟨_, _, hv⟩
  clear hown hne hbk h
  go_enter Tryd.func75, Tryd.ntmps75
  go_wp2
  go_ret
  exact ⟨rfl, rfl⟩
def byn (n : Nat) : UInt8 := UInt8.ofNat n
/-- the n-th round's bytes -/
def tN (secret word : ByteArray) : Nat → ByteArray
  | 0 => ⟨#[]⟩
  | n + 1 => tagF secret (tN secret word n ++ word ++ ⟨#[byn (n + 1)]⟩)
/-- what n rounds make -/
def oN (secret word : ByteArray) : Nat → ByteArray
  | 0 => ⟨#[]⟩
  | n + 1 => oN secret word n ++ tN secret word (n + 1)
theorem tN_size (secret word : ByteArray) (n : Nat) : (tN secret word (n + 1)).size = 32 := tagF_size _ _
theorem tN_le (secret word : ByteArray) (n : Nat) : (tN secret word n).size ≤ 32 := by
  cases n with
  | zero => exact Nat.zero_le _
  | succ n => rw [tN_size]; omega
theorem oN_size (secret word : ByteArray) (n : Nat) : (oN secret word n).size = 32 * n := by
  induction n with
  | zero => rfl
  | succ n ih =>
    show (oN secret word n ++ tN secret word (n + 1)).size = _
    rw [ByteArray.size_append, ih, tN_size]; omega
/-- so many bytes -/
def expF (secret word : ByteArray) (many : Nat) : ByteArray := (oN secret word ((many + 31) / 32)).extract 0 many
theorem expF_size (secret word : ByteArray) (many : Nat) : (expF secret word many).size = many := by
  unfold expF
  rw [ByteArray.size_extract, oN_size]; omega
/-- so many keys -/
def splF (secret word : ByteArray) (many : Nat) : List ByteArray := (List.range many).map (fun i => (expF secret word (many * 32)).extract (32 * i) (32 * i + 32))
theorem splF_len (secret word : ByteArray) (many : Nat) : (splF secret word many).length = many := by unfold splF; simp
set_option maxHeartbeats 1000000 in
theorem Expand_no (secret word : ByteArray) (many : Int) (w : World) (hm : many < 0 ∨ 8160 < many) :
    Calls Tryd.prog 54 #[.string secret, .string word, .int .i64 many] w fun e w' => e = .returned (.tuple #[.string ⟨#[]⟩, .int .i64 2]) ∧ Below w.heap.size w w' := by
  rcases hm with hm | hm
  · go_enter Tryd.func54, Tryd.ntmps54
    go_wp2
    go_ret2
    exact ⟨rfl, Below.refl _ _⟩
  · have hm0 : ¬ many < 0 := by omega
    go_enter Tryd.func54, Tryd.ntmps54
    go_wp2
    go_ret2
    exact ⟨rfl, Below.refl _ _⟩
theorem Split_no (secret word : ByteArray) (many : Int) (w : World) (hm : many < 0 ∨ 255 < many) :
    Calls Tryd.prog 41 #[.string secret, .string word, .int .i64 many] w fun e w' => e = .returned (.tuple #[.slice none 0 0, .int .i64 2]) ∧ Below w.heap.size w w' := by
  rcases hm with hm | hm
  · go_enter Tryd.func41, Tryd.ntmps41
    go_wp2
    go_ret2
    exact ⟨rfl, Below.refl _ _⟩
  · have hm0 : ¬ many < 0 := by omega
    go_enter Tryd.func41, Tryd.ntmps41
    go_wp2
    go_ret2
    exact ⟨rfl, Below.refl _ _⟩
theorem bcells (b : ByteArray) : Lib.byteCells b.data.toList = Lib.strCells b := by simp [Lib.byteCells, Lib.strCells]
set_option maxHeartbeats 8000000 in
set_option maxRecDepth 100000 in
theorem Expand_yes (secret word : ByteArray) (many : Nat) (w : World) (hm : many ≤ 8160) (hs : secret.size ≤ 100000) (hw : word.size ≤ 10000) (hK : KeysAt w) :
    Calls Tryd.prog 54 #[.string secret, .string word, .int .i64 (many : Int)] w fun e w' => e = .returned (.tuple #[.string (expF secret word many), .int .i64 0]) ∧ Below w.heap.size w w' := by
  have HK := Lib.hid (fun w1 (hg : Gr w w1) => hK.up hg)
  clear hK
  have m0 : ¬ ((many : Int) < 0) := by omega
  have m1 : ¬ ((many : Int) > 8160) := by omega
  have hb := Lib.fresh_isBuilder 112 5 w
  have HB0 := Lib.hid (below_alloc (Below.refl w.heap.size w) (.cells #[.pointer none, .slice none 0 0] 112))
  go_enter Tryd.func54, Tryd.ntmps54
  go_wp2_with fail
  have HI0 := Lib.hid hb
  clear hb m0 m1
  go_loopw [9, 10] (fun c9 c10 wr => ∃ n : Nat, c9 = .string (tN secret word n) ∧ c10 = .int .i64 ((n : Int) + 1) ∧ Aside0 (32 * n < many + 32) ∧ Aside0 (Lib.IsBuilder 112 5 w.heap.size w.heap.size (Lib.byteCells (oN secret word n).data.toList) wr) ∧ Aside0 (Below w.heap.size w wr)) (fun _ c10 _ => 9000 - (intOf c10).toNat)
  case atStart => exact ⟨0, rfl, rfl, ⟨by omega⟩, ⟨HI0.out⟩, ⟨HB0.out⟩⟩
  case round =>
    clear HI0 HB0
    obtain ⟨n, rfl, rfl, HN, HI, HB⟩ := hrel
    have hlen : ((Lib.byteCells (oN secret word n).data.toList).length : Int) = 32 * (n : Int) := by
      have : (oN secret word n).data.toList.length = (oN secret word n).size := by rw [Array.length_toList]; rfl
      rw [Lib.byteCells_length, this, oN_size]; omega
    by_cases hlt : 32 * n < many
    · have hcmp : 32 * (n : Int) < (many : Int) := by omega
      have hn0 : (0 : Int) ≤ (n : Int) + 1 := by omega
      have hn1 : (n : Int) + 1 ≤ 255 := by omega
      have ht := tN_le secret word n
      have hcat1 : ¬ ((tN secret word n).size + word.size > 9223372036854775807) := by omega
      have hcat2 : ¬ ((tN secret word n ++ word).size + (⟨#[byn (n + 1)]⟩ : ByteArray).size > 9223372036854775807) := by
        rw [ByteArray.size_append]; show ¬ (_ + 1 > _); omega
      have hsz : (tN secret word n ++ word ++ (⟨#[byn (n + 1)]⟩ : ByteArray)).size ≤ 100000 := by
        rw [ByteArray.size_append, ByteArray.size_append]; show _ + 1 ≤ _; omega
      have hmod : ((n : Int) + 1) % 256 = (n : Int) + 1 := by omega
      have hto : ((n : Int) + 1).toNat = n + 1 := by omega
      have HT := Lib.hid (fun w1 (hg : Gr w w1) => Tag_any secret (tN secret word n ++ word ++ ⟨#[byn (n + 1)]⟩) w1 hs hsz (HK.out w1 hg))
      have HTS := Lib.hid (tN_size secret word n)
      have HO := Lib.hid (show oN secret word (n + 1) = oN secret word n ++ tN secret word (n + 1) from rfl)
      have HOS := Lib.hid (oN_size secret word n)
      rw [show tagF secret (tN secret word n ++ word ++ ⟨#[byn (n + 1)]⟩) = tN secret word (n + 1) from rfl] at HT
      clear hsz
      have hcv := conv_lit1 Tryd.underlying42 Tryd.underlying5 Tryd.underlying9 wr ((n : Int) + 1)
      rw [hto, show UInt8.ofNat (n + 1) = byn (n + 1) from rfl] at hcv
      go_wp2_with fail
      refine (Builder_Len w.heap.size w.heap.size _ _ HI.out).mono ?_
      rintro e w1 ⟨rfl, rfl⟩
      rw [hlen]
      go_wp2_with fail
      clear hcv
      refine (HT.out _ (below_alloc HB.out _)).mono ?_
      rintro e w2 ⟨rfl, hb⟩
      have HBS := Lib.hid (below_alloc (Below.refl w1.heap.size w1) (.cells #[.int .u8 ((n : Int) + 1)] 5))
      have HB12 := Lib.hid (below_step HBS.out hb)
      have HI2 := Lib.hid (bld_below HI.out HB12.out)
      replace HB := Aside0.mk (HB.out.trans (Below.mono HB12.out HB.out.size))
      clear hb HBS HB12 HI hcat1 hcat2 hmod
      go_wp2_with fail
      refine (Tryd.Builder_WriteString w.heap.size w.heap.size _ (tN secret word (n + 1)) _ HI2.out (by rw [Lib.byteCells_length, HTS.out, show (oN secret word n).data.toList.length = (oN secret word n).size by rw [Array.length_toList]; rfl, HOS.out]; omega) HB.out.size).mono ?_
      rintro e w3 ⟨rfl, hI, hb⟩
      have HI3 := Aside0.mk (show Lib.IsBuilder 112 5 w.heap.size w.heap.size (Lib.byteCells (oN secret word (n + 1)).data.toList) w3 from by
        rw [HO.out, app_list, cells_str]
        exact Or.inr hI)
      replace HB := Aside0.mk (HB.out.trans hb)
      clear hI hb
      go_wp2
      go_roundw
      case rel => exact ⟨n + 1, rfl, by go_num, ⟨by omega⟩, HI3, HB⟩
      case measure => simp [intOf]; omega
    · have hcmp : ¬ (32 * (n : Int) < (many : Int)) := by omega
      have hq : (many + 31) / 32 = n := by have := HN.out; omega
      have HOS := Lib.hid (oN_size secret word n)
      have HE := Lib.hid (show (oN secret word n).extract 0 many = expF secret word many by unfold expF; rw [hq])
      have hsl0 : (0 : Int) ≤ (many : Int) := by omega
      have hsl1 : (many : Int) ≤ ((oN secret word n).size : Int) := by rw [HOS.out]; omega
      go_wp2_with fail
      refine (Builder_Len w.heap.size w.heap.size _ _ HI.out).mono ?_
      rintro e w1 ⟨rfl, rfl⟩
      rw [hlen]
      go_wp2_with fail
      refine (Tryd.Builder_String_any w.heap.size w.heap.size _ _ HI.out HB.out.size).mono ?_
      rintro e w2 ⟨rfl, hb⟩
      replace HB := Aside0.mk (HB.out.trans hb)
      rw [show (⟨(oN secret word n).data.toList.toArray⟩ : ByteArray) = oN secret word n from rfl]
      generalize oN secret word n = on at *
      clear hb hlen HI
      go_wp2
      go_ret2
      exact ⟨by rw [← HE.out]; rfl, HB.out⟩
theorem info_str : (Tryd.prog.info? 9).map (fun i => (i.zero, i.size, i.bytes)) = some (some (.string ⟨#[]⟩), 1, 16) := by kernel_rfl
set_option maxHeartbeats 8000000 in
set_option maxRecDepth 100000 in
theorem Split_yes (secret word : ByteArray) (many : Nat) (w : World) (hm : many ≤ 255) (hs : secret.size ≤ 100000) (hw : word.size ≤ 10000) (hK : KeysAt w) :
    Calls Tryd.prog 41 #[.string secret, .string word, .int .i64 (many : Int)] w fun e w' => (∃ A c, e = .returned (.tuple #[.slice A many c, .int .i64 0]) ∧ many ≤ c ∧ Kd.string.C w' A many (splF secret word many)) ∧ Below w.heap.size w w' := by
  have m0 : ¬ ((many : Int) < 0) := by omega
  have m1 : ¬ ((many : Int) > 255) := by omega
  have m2 : (0 : Int) ≤ (many : Int) := by omega
  have m3 : (many : Int) ≤ 255 := by omega
  have hmul : IntKind.i64.wrap ((many : Int) * 32) = ((many * 32 : Nat) : Int) := by rw [kw64]; unfold wrap64; omega
  have HX := Lib.hid (Expand_yes secret word (many * 32) w (by omega) hs hw hK)
  have HSz := Lib.hid (expF_size secret word (many * 32))
  have HSp := Lib.hid (show splF secret word many = (List.range many).map (fun i => (expF secret word (many * 32)).extract (32 * i) (32 * i + 32)) from rfl)
  rw [HSp.out]
  clear hK HSp
  generalize expF secret word (many * 32) = x at *
  go_enter Tryd.func41, Tryd.ntmps41
  go_wp2_with fail
  refine HX.out.mono ?_
  rintro e w1 ⟨rfl, hb⟩
  have HB0 := Lib.hid hb
  clear hb m0 m1 m2 m3 hmul HX
  go_wp2_with fail
  go_loopw [8, 10] (fun c8 c10 wr => ∃ (i : Nat) (v : Value), c8 = .string (x.extract (32 * i) x.size) ∧ c10 = v ∧ Aside0 (i ≤ many) ∧ Aside0 (Kd.string.R 9 wr w.heap.size (fun _ => True) v ((List.range i).map (fun i => x.extract (32 * i) (32 * i + 32)))) ∧ Aside0 (Below w.heap.size w wr)) (fun c8 _ _ => strLen c8)
  case atStart => exact ⟨0, _, by rw [Nat.mul_zero, ByteArray.extract_zero_size], rfl, ⟨by omega⟩, ⟨Kd.R_nil _ _ _ _ _⟩, ⟨HB0.out⟩⟩
  case round =>
    clear HB0
    obtain ⟨i, v, rfl, rfl, Hi, HR, HB⟩ := hrel
    have hxs := ext_size x (32 * i)
    have hS := HSz.out
    by_cases hlt : i < many
    · have h32 : (32 : Int) ≤ ((x.extract (32 * i) x.size).size : Int) := by omega
      have h00 : (0 : Int) ≤ ((x.extract (32 * i) x.size).size : Int) := by omega
      have hne : ((x.extract (32 * i) x.size).toList == (⟨#[]⟩ : ByteArray).toList) = false := by
        rw [str_beq]
        refine decide_eq_false (fun hh => ?_)
        rw [hh] at hxs
        have : (⟨#[]⟩ : ByteArray).size = 0 := rfl
        omega
      have e1 := Lib.hid (show (x.extract (32 * i) x.size).extract 0 32 = x.extract (32 * i) (32 * i + 32) by rw [ByteArray.extract_extract]; congr 1; omega)
      have e2 := Lib.hid (show (x.extract (32 * i) x.size).extract 32 (x.extract (32 * i) x.size).size = x.extract (32 * (i + 1)) x.size by rw [ByteArray.extract_extract, hxs]; congr 1 <;> omega)
      have hms := ext_size x (32 * (i + 1))
      have HMs := Lib.hid (show (x.extract (32 * (i + 1)) x.size).size < (x.extract (32 * i) x.size).size by omega)
      have HRs := Lib.hid (show (List.range (i + 1)).map (fun i => x.extract (32 * i) (32 * i + 32)) = (List.range i).map (fun i => x.extract (32 * i) (32 * i + 32)) ++ [x.extract (32 * i) (32 * i + 32)] by rw [List.range_succ, List.map_append]; rfl)
      have hlr : ((List.range i).map (fun i => x.extract (32 * i) (32 * i + 32))).length = i := by simp
      clear hxs hS hms
      rw [← e2.out] at HMs
      generalize x.extract (32 * i) x.size = y at *
      have hem : y.toList.isEmpty = false := by
        cases h : y.toList with
        | nil => rw [h] at hne; simp at hne
        | cons _ _ => rfl
      generalize (List.range i).map (fun i => x.extract (32 * i) (32 * i + 32)) = xs at *
      go_wp2_with (first | ((with_reducible refine gate_builtin (b := .append) rfl ?_); at_builtin; refine app1 Kd.string (.tmp 29) (.tmp 32) 44 9 (.string ⟨#[]⟩) 16 rfl rfl Tryd.underlying44 info_str rfl (by decide) (by decide) _ _ _ _ rfl rfl rfl HR HB ?aL ?_; (case aL => omega); intro v1 w3 HR1 HB1))
      rw [e1.out, ← HRs.out] at HR1
      go_roundw
      case rel => exact ⟨i + 1, v1, by rw [e2.out], rfl, ⟨by omega⟩, HR1, HB1⟩
      case measure => exact HMs.out
    · obtain rfl : i = many := by have := Hi.out; omega
      have hsz0 : (x.extract (32 * i) x.size).size = 0 := by omega
      have he : x.extract (32 * i) x.size = ⟨#[]⟩ := by
        apply ba_ext
        have : (x.extract (32 * i) x.size).data.toList.length = 0 := hsz0
        rw [List.length_eq_zero_iff.1 this]
      rw [he]
      clear he hsz0 hxs hS hlt
      obtain ⟨A, c, rfl⟩ := Kd.R_slice HR.out
      have HRe := Lib.hid (Kd.R_reads' HR.out)
      rw [List.length_map, List.length_range] at HRe
      have hlr : ((List.range i).map (fun i => x.extract (32 * i) (32 * i + 32))).length = i := by simp
      go_wp2
      go_ret2
      exact ⟨⟨A, c, rfl, HRe.out.2.1, HRe.out.2.2⟩, HB.out⟩
end Go.Proofs.YtpbaolijacimjaaDoor

set_option linter.unusedSimpArgs false
/- LAYER 4: the same texts. -/
namespace Go.Proofs.YtpbaolijacimjaaDoor
open Go.RowKit Go.Proofs.YtpbaolijacimjaaDoorW.PrintWords
theorem xor63 (a b : Nat) (ha : a < 65536) (hb : b < 65536) : Go.bits .xor .i64 (a : Int) (b : Int) = ((a ^^^ b : Nat) : Int) := by
  have h : (BitVec.ofNat 64 a ^^^ BitVec.ofNat 64 b).toNat = a ^^^ b := by
    rw [BitVec.toNat_xor, BitVec.toNat_ofNat, BitVec.toNat_ofNat, Nat.mod_eq_of_lt (by omega), Nat.mod_eq_of_lt (by omega)]
  have hl : a ^^^ b < 2 ^ 16 := Nat.xor_lt_two_pow ha hb
  unfold bits
  rw [show BitVec.ofInt IntKind.i64.bits (a : Int) = BitVec.ofNat 64 a from BitVec.ofInt_natCast 64 a, show BitVec.ofInt IntKind.i64.bits (b : Int) = BitVec.ofNat 64 b from BitVec.ofInt_natCast 64 b]
  show IntKind.i64.wrap (((BitVec.ofNat 64 a ^^^ BitVec.ofNat 64 b).toNat : Nat) : Int) = _
  rw [h, IntKind.wrap_i64]
  omega
theorem or63 (a b : Nat) (ha : a < 65536) (hb : b < 65536) : Go.bits .or .i64 (a : Int) (b : Int) = ((a ||| b : Nat) : Int) := by
  have h : (BitVec.ofNat 64 a ||| BitVec.ofNat 64 b).toNat = a ||| b := by
    rw [BitVec.toNat_or, BitVec.toNat_ofNat, BitVec.toNat_ofNat, Nat.mod_eq_of_lt (by omega), Nat.mod_eq_of_lt (by omega)]
  have hl : a ||| b < 2 ^ 16 := Nat.or_lt_two_pow ha hb
  unfold bits
  rw [show BitVec.ofInt IntKind.i64.bits (a : Int) = BitVec.ofNat 64 a from BitVec.ofInt_natCast 64 a, show BitVec.ofInt IntKind.i64.bits (b : Int) = BitVec.ofNat 64 b from BitVec.ofInt_natCast 64 b]
  show IntKind.i64.wrap (((BitVec.ofNat 64 a ||| BitVec.ofNat 64 b).toNat : Nat) : Int) = _
  rw [h, IntKind.wrap_i64]
  omega
/-- a byte, or 256 where there is none -/
def atN (s : ByteArray) (i : Nat) : Nat := if h : i < s.size then (s[i]'h).toNat else 256
theorem atN_lt (s : ByteArray) (i : Nat) : atN s i < 65536 := by
  unfold atN
  split
  · have := UInt8.toNat_lt (s[i]); omega
  · decide
def offN (a b : ByteArray) : Nat → Nat
  | 0 => 0
  | i + 1 => offN a b i ||| (atN a i ^^^ atN b i)
theorem offN_lt (a b : ByteArray) (i : Nat) : offN a b i < 65536 := by
  induction i with
  | zero => exact (by decide : 0 < 65536)
  | succ i ih => exact Nat.or_lt_two_pow (n := 16) ih (Nat.xor_lt_two_pow (atN_lt a i) (atN_lt b i))
theorem or_zero (x y : Nat) : x ||| y = 0 ↔ x = 0 ∧ y = 0 := Nat.or_eq_zero_iff
theorem xor_zero (x y : Nat) : x ^^^ y = 0 ↔ x = y := by
  constructor
  · intro h
    refine Nat.eq_of_testBit_eq fun i => ?_
    have := congrArg (fun n => n.testBit i) h
    simp only [Nat.testBit_xor, Nat.zero_testBit] at this
    cases hx : x.testBit i <;> cases hy : y.testBit i <;> simp [hx, hy] at this ⊢
  · rintro rfl
    exact Nat.xor_self x
theorem offN_zero (a b : ByteArray) (i : Nat) : offN a b i = 0 ↔ ∀ j, j < i → atN a j = atN b j := by
  induction i with
  | zero => exact ⟨fun _ j hj => absurd hj (by omega), fun _ => rfl⟩
  | succ i ih =>
    show offN a b i ||| (atN a i ^^^ atN b i) = 0 ↔ _
    rw [or_zero, ih, xor_zero]
    exact ⟨fun h j hj => by
      rcases Nat.lt_or_ge j i with h' | h'
      · exact h.1 j h'
      · obtain rfl : j = i := by omega
        exact h.2, fun h => ⟨fun j hj => h j (by omega), h i (by omega)⟩⟩
theorem same_iff (a b : ByteArray) : (∀ j, j < max a.size b.size → atN a j = atN b j) ↔ a = b := by
  constructor
  · intro h
    have hs : a.size = b.size := by
      rcases Nat.lt_trichotomy a.size b.size with hl | hl | hl
      · have := h a.size (by omega)
        unfold atN at this
        rw [dif_neg (by omega), dif_pos hl] at this
        have := UInt8.toNat_lt (b[a.size]'hl)
        omega
      · exact hl
      · have := h b.size (by omega)
        unfold atN at this
        rw [dif_pos hl, dif_neg (by omega)] at this
        have := UInt8.toNat_lt (a[b.size]'hl)
        omega
    refine ByteArray.ext (Array.ext hs fun i h1 h2 => ?_)
    have := h i (by have : a.data.size = a.size := rfl; omega)
    unfold atN at this
    rw [dif_pos (show i < a.size from h1), dif_pos (show i < b.size from h2)] at this
    exact UInt8.toNat_inj.1 this
  · rintro rfl j _
    rfl
attribute [local irreducible] Calls
set_option maxHeartbeats 4000000 in
set_option maxRecDepth 100000 in
theorem dSame_any (a b : ByteArray) (w : World) (ha : a.size ≤ 140737488351232) (hb : b.size ≤ 140737488351232) :
    Calls Tryd.prog 29 #[.string a, .string b] w fun e w' => e = .returned (.bool (decide (a = b))) ∧ Below w.heap.size w w' := by
  obtain ⟨m, hm⟩ : ∃ m, m = max a.size b.size := ⟨_, rfl⟩
  have hmx : max (a.size : Int) (b.size : Int) = (m : Int) := by omega
  have hm1 : m ≤ 140737488351232 := by omega
  have HM := Lib.hid hm
  clear hm
  have HB0 := Lib.hid (Below.refl w.heap.size w)
  go_enter Tryd.func29, Tryd.ntmps29
  go_wp2_with fail
  clear hmx
  go_loopw [5, 14] (fun c5 c14 wr => ∃ i : Nat, c14 = .int .i64 (i : Int) ∧ c5 = .int .i64 ((offN a b i : Nat) : Int) ∧ Aside0 (i ≤ m) ∧ Aside0 (Below w.heap.size w wr)) (fun _ c14 _ => m - (intOf c14).toNat)
  case atStart => exact ⟨0, rfl, rfl, ⟨by omega⟩, ⟨HB0.out⟩⟩
  case round =>
    clear HB0
    obtain ⟨i, rfl, rfl, Hi, HB⟩ := hrel
    by_cases hlt : i < m
    · have i0 : (0 : Int) ≤ (i : Int) := by omega
      have i1 : (i : Int) < (m : Int) := by omega
      have hx := xor63 (atN a i) (atN b i) (atN_lt a i) (atN_lt b i)
      have ho := or63 (offN a b i) (atN a i ^^^ atN b i) (offN_lt a b i) (Nat.xor_lt_two_pow (n := 16) (atN_lt a i) (atN_lt b i))
      have HO := Lib.hid (show offN a b (i + 1) = offN a b i ||| (atN a i ^^^ atN b i) from rfl)
      rw [← HO.out] at ho
      have HAa := Lib.hid (show ∀ h : i < a.size, ((a[i]'h).toNat : Int) = ((atN a i : Nat) : Int) from fun h => by unfold atN; rw [dif_pos h])
      have HAb := Lib.hid (show ∀ h : i < b.size, ((b[i]'h).toNat : Int) = ((atN b i : Nat) : Int) from fun h => by unfold atN; rw [dif_pos h])
      have HNa := Lib.hid (show ¬ i < a.size → atN a i = 256 from fun h => by unfold atN; rw [dif_neg h])
      have HNb := Lib.hid (show ¬ i < b.size → atN b i = 256 from fun h => by unfold atN; rw [dif_neg h])
      by_cases ha1 : i < a.size
      · have ea := HAa.out ha1
        have ca : (i : Int) < (a.size : Int) := by omega
        have hra : (atN a i : Int) ≤ 65535 := by have := atN_lt a i; omega
        by_cases hb1 : i < b.size
        · have eb := HAb.out hb1
          have cb : (i : Int) < (b.size : Int) := by omega
          have hrb : (atN b i : Int) ≤ 65535 := by have := atN_lt b i; omega
          go_wp2
          go_roundw
          case rel => exact ⟨i + 1, by go_num, rfl, ⟨by omega⟩, HB⟩
          case measure => simp [intOf]; omega
        · have cb : ¬ ((i : Int) < (b.size : Int)) := by omega
          rw [HNb.out hb1] at hx ho
          replace hx : Go.bits .xor .i64 ((atN a i : Nat) : Int) 256 = _ := hx
          go_wp2
          go_roundw
          case rel => exact ⟨i + 1, by go_num, rfl, ⟨by omega⟩, HB⟩
          case measure => simp [intOf]; omega
      · have ca : ¬ ((i : Int) < (a.size : Int)) := by omega
        rw [HNa.out ha1] at hx ho
        replace hx : Go.bits .xor .i64 256 ((atN b i : Nat) : Int) = _ := hx
        by_cases hb1 : i < b.size
        · have eb := HAb.out hb1
          have cb : (i : Int) < (b.size : Int) := by omega
          have hrb : (atN b i : Int) ≤ 65535 := by have := atN_lt b i; omega
          go_wp2
          go_roundw
          case rel => exact ⟨i + 1, by go_num, rfl, ⟨by omega⟩, HB⟩
          case measure => simp [intOf]; omega
        · exfalso
          have := HM.out
          omega
    · have hi : i = m := by have := Hi.out; omega
      have hres : (((offN a b i : Nat) : Int) == 0) = decide (a = b) := by
        rw [Bool.eq_iff_iff, beq_iff_eq, decide_eq_true_iff, ← same_iff, ← HM.out, ← hi, ← offN_zero]
        omega
      have i1 : ¬ ((i : Int) < (m : Int)) := by omega
      go_wp2
      go_ret
      exact ⟨by rw [← hres, hi]; rfl, HB.out⟩
end Go.Proofs.YtpbaolijacimjaaDoor

set_option linter.unusedSimpArgs false
/- LAYER 4: the reference. -/
namespace Go.Proofs.YtpbaolijacimjaaDoor
open Go.RowKit Go.Proofs.YtpbaolijacimjaaDoorW.PrintWords
theorem kb_at (key : ByteArray) (i b : Nat) (h : (bOf (kbB key))[i]? = some b) : (∀ hk : i < (keyB key).size, (((keyB key)[i]'hk).toNat : Int) = (b : Int)) ∧ (¬ i < (keyB key).size → b = 0) := by
  unfold kbB at h
  rw [bOf_app] at h
  constructor
  · intro hk
    rw [List.getElem?_append_left (by rw [bOf_len]; exact hk)] at h
    unfold bOf at h
    rw [List.getElem?_map, Array.getElem?_toList, Array.getElem?_eq_getElem (by exact hk)] at h
    have := Option.some.inj h
    exact congrArg (fun n : Nat => (n : Int)) this
  · intro hk
    rw [List.getElem?_append_right (by rw [bOf_len]; omega)] at h
    have hm := List.mem_of_getElem? h
    obtain ⟨x, hx, rfl⟩ := List.mem_map.1 hm
    have hx : x ∈ Lib.repeatL [0] (64 - (keyB key).size) := hx
    have e : ∀ n, ∀ y ∈ Lib.repeatL ([0] : List UInt8) n, y = 0 := fun n => by
      induction n with
      | zero => intro y hy; cases hy
      | succ n ih =>
        intro y hy
        unfold Lib.repeatL at hy
        rcases List.mem_append.1 hy with h | h
        · exact List.mem_singleton.1 h
        · exact ih y h
    rw [e _ x hx]
    rfl
attribute [local irreducible] Calls mixF
set_option maxHeartbeats 8000000 in
set_option maxRecDepth 100000 in
theorem RKey_any (A1 : Option Addr) (c1 : Nat) (A2 : Option Addr) (c2 : Nat) (s : ByteArray) (c : Nat) (hc : c < 256) (w : World) (hK : KAt w A1 c1 A2 c2) (hs : s.size ≤ 100000) :
    Calls Tryd.prog 49 #[kV A1 c1 A2 c2, .string s, .int .u8 (c : Int)] w fun e w' => e = .returned (.string (padB s c)) ∧ Below w.heap.size w w' := by
  have hks := keyB_size s
  have HLen := Lib.hid (show (bOf (kbB s)).length = 64 by rw [bOf_len, kbB_size])
  have HLt := Lib.hid (bOf_lt (kbB s))
  have HAt := Lib.hid (kb_at s)
  rw [show padB s c = bStr ((bOf (kbB s)).map (· ^^^ c)) from rfl]
  generalize bOf (kbB s) = L at *
  have HOf := Lib.hid (fun w1 (hg : Gr w w1) => ROf_any A1 c1 A2 c2 s w1 (hK.up hg) hs)
  clear hK
  unfold kV at *
  have HO := (Own.start w).alloc' (.cells #[.slice A1 64 c1, .slice A2 8 c2] 33) rfl
  by_cases h64 : 64 < s.size
  · have hcmp : (s.size : Int) > 64 := by omega
    have HKey := Lib.hid (show keyB s = shaF s by unfold keyB; rw [if_pos h64])
    rw [HKey.out] at hks HAt
    generalize hsh : shaF s = K at *
    clear hsh
    go_enter Tryd.func49, Tryd.ntmps49
    have c0 := HO.cell 0 rfl
    go_wp2_with fail
    clear c0
    refine (HOf.out _ HO.below).mono ?_
    rintro e w2 ⟨rfl, hb⟩
    have HB := Lib.hid (HO.up hb).below
    clear hb HO
    have HKK := Lib.hid HKey.out
    go_wp2_with (first | ((with_reducible refine gate_dst (N := 16) rfl ?_); refine Kd.R_lit (Kd.int .u8) w.heap.size 5 ?hg (N := 16) ?hd (xs := ([] : List Int)) (inner := []) (ok := fun _ => True) (okp := fun _ => True) ?hr ?hp (fun _ hk => hk) trivial HB.out HB.out.size (by simp) ?_; (case hd => rfl); (case hg => rfl); (case hr => first | (go_simp; done) | (go_simp; rfl)); (case hp => exact (Reps.none _ _)); intro v1 w1 HO HB1 hg hnew; clear hg hnew))
    have HO0 := Lib.hid (show Kd.R (Kd.int .u8) 5 w1 w.heap.size (fun _ => True) v1 (bI ((L.take 0).map (· ^^^ c))) from HO)
    have HB0 := Lib.hid HB1
    clear HO HB1 HB
    go_loopw [7, 8] (fun c7 c8 wr => ∃ (i : Nat) (v : Value), c8 = .int .i64 (i : Int) ∧ c7 = v ∧ Aside0 (i ≤ 64) ∧ Aside0 (Kd.R (Kd.int .u8) 5 wr w.heap.size (fun _ => True) v (bI ((L.take i).map (· ^^^ c)))) ∧ Aside0 (Below w.heap.size w wr)) (fun _ c8 _ => 64 - (intOf c8).toNat)
    case atStart => exact ⟨0, _, rfl, rfl, ⟨by omega⟩, ⟨HO0.out⟩, ⟨HB0.out⟩⟩
    case round =>
      clear HO0 HB0
      obtain ⟨i, v, rfl, rfl, Hi, HR, HB⟩ := hrel
      by_cases hlt : i < 64
      · have i0 : (0 : Int) ≤ (i : Int) := by omega
        have i1 : (i : Int) < 64 := by omega
        obtain ⟨b, hb⟩ : ∃ n, L[i]? = some n := ⟨_, List.getElem?_eq_getElem (by have := HLen.out; omega)⟩
        have hb256 := HLt.out b (List.mem_of_getElem? hb)
        have hx8 := xor8 b c hb256 hc
        have HT := Lib.hid (show bI ((L.take (i + 1)).map (· ^^^ c)) = bI ((L.take i).map (· ^^^ c)) ++ [((b ^^^ c : Nat) : Int)] by rw [List.take_add_one, hb]; simp [bI])
        have hll : (bI ((L.take i).map (· ^^^ c))).length ≤ 64 := by rw [bI_len, List.length_map, List.length_take]; omega
        have HB2 := Lib.hid (HAt.out i b hb)
        clear hb
        by_cases hk : i < K.size
        · have hk1 : (i : Int) < (K.size : Int) := by omega
          have hkb := HB2.out.1 hk
          go_wp2_with (first | ((with_reducible refine gate_builtin (b := .append) rfl ?_); at_builtin; refine app1 (Kd.int .u8) (.tmp 28) (.tmp 32) 42 5 (.int .u8 0) 1 rfl rfl Tryd.underlying42 infoU8 rfl (by decide) (by decide) _ _ _ _ rfl rfl rfl HR HB ?aL ?_; (case aL => omega); intro v1 w3 HR1 HB1))
          rw [← HT.out] at HR1
          go_roundw
          case rel => exact ⟨i + 1, v1, by go_num, rfl, ⟨by omega⟩, HR1, HB1⟩
          case measure => simp [intOf]; omega
        · have hk1 : ¬ ((i : Int) < (K.size : Int)) := by omega
          obtain rfl := HB2.out.2 hk
          rw [Nat.zero_xor] at HT
          replace hx8 : Go.bits .xor .u8 0 (c : Int) = _ := hx8
          go_wp2_with (first | ((with_reducible refine gate_builtin (b := .append) rfl ?_); at_builtin; refine app1 (Kd.int .u8) (.tmp 28) (.tmp 32) 42 5 (.int .u8 0) 1 rfl rfl Tryd.underlying42 infoU8 rfl (by decide) (by decide) _ _ _ _ rfl rfl rfl HR HB ?aL ?_; (case aL => omega); intro v1 w3 HR1 HB1))
          rw [← HT.out] at HR1
          go_roundw
          case rel => exact ⟨i + 1, v1, by go_num, rfl, ⟨by omega⟩, HR1, HB1⟩
          case measure => simp [intOf]; omega
      · obtain rfl : i = 64 := by have := Hi.out; omega
        have ht : L.take 64 = L := List.take_of_length_le (by have := HLen.out; omega)
        rw [ht] at HR
        have hs := own_string (P := Tryd.prog) Tryd.underlying42 Tryd.underlying5 Tryd.underlying9 (Kd.own_of_R HR.out)
        have i1 : ¬ ((64 : Int) < 64) := by omega
        clear ht
        go_wp2
        go_ret
        exact ⟨rfl, HB.out⟩
  · have hcmp : ¬ ((s.size : Int) > 64) := by omega
    have HKey := Lib.hid (show keyB s = s by unfold keyB; rw [if_neg h64])
    rw [HKey.out] at hks HAt
    clear HOf
    generalize s = K at *
    have HB := Lib.hid HO.below
    clear HO
    go_enter Tryd.func49, Tryd.ntmps49
    have HKK := Lib.hid HKey.out
    go_wp2_with (first | ((with_reducible refine gate_dst (N := 16) rfl ?_); refine Kd.R_lit (Kd.int .u8) w.heap.size 5 ?hg (N := 16) ?hd (xs := ([] : List Int)) (inner := []) (ok := fun _ => True) (okp := fun _ => True) ?hr ?hp (fun _ hk => hk) trivial HB.out HB.out.size (by simp) ?_; (case hd => rfl); (case hg => rfl); (case hr => first | (go_simp; done) | (go_simp; rfl)); (case hp => exact (Reps.none _ _)); intro v1 w1 HO HB1 hg hnew; clear hg hnew))
    have HO0 := Lib.hid (show Kd.R (Kd.int .u8) 5 w1 w.heap.size (fun _ => True) v1 (bI ((L.take 0).map (· ^^^ c))) from HO)
    have HB0 := Lib.hid HB1
    clear HO HB1 HB
    go_loopw [7, 8] (fun c7 c8 wr => ∃ (i : Nat) (v : Value), c8 = .int .i64 (i : Int) ∧ c7 = v ∧ Aside0 (i ≤ 64) ∧ Aside0 (Kd.R (Kd.int .u8) 5 wr w.heap.size (fun _ => True) v (bI ((L.take i).map (· ^^^ c)))) ∧ Aside0 (Below w.heap.size w wr)) (fun _ c8 _ => 64 - (intOf c8).toNat)
    case atStart => exact ⟨0, _, rfl, rfl, ⟨by omega⟩, ⟨HO0.out⟩, ⟨HB0.out⟩⟩
    case round =>
      clear HO0 HB0
      obtain ⟨i, v, rfl, rfl, Hi, HR, HB⟩ := hrel
      by_cases hlt : i < 64
      · have i0 : (0 : Int) ≤ (i : Int) := by omega
        have i1 : (i : Int) < 64 := by omega
        obtain ⟨b, hb⟩ : ∃ n, L[i]? = some n := ⟨_, List.getElem?_eq_getElem (by have := HLen.out; omega)⟩
        have hb256 := HLt.out b (List.mem_of_getElem? hb)
        have hx8 := xor8 b c hb256 hc
        have HT := Lib.hid (show bI ((L.take (i + 1)).map (· ^^^ c)) = bI ((L.take i).map (· ^^^ c)) ++ [((b ^^^ c : Nat) : Int)] by rw [List.take_add_one, hb]; simp [bI])
        have hll : (bI ((L.take i).map (· ^^^ c))).length ≤ 64 := by rw [bI_len, List.length_map, List.length_take]; omega
        have HB2 := Lib.hid (HAt.out i b hb)
        clear hb
        by_cases hk : i < K.size
        · have hk1 : (i : Int) < (K.size : Int) := by omega
          have hkb := HB2.out.1 hk
          go_wp2_with (first | ((with_reducible refine gate_builtin (b := .append) rfl ?_); at_builtin; refine app1 (Kd.int .u8) (.tmp 28) (.tmp 32) 42 5 (.int .u8 0) 1 rfl rfl Tryd.underlying42 infoU8 rfl (by decide) (by decide) _ _ _ _ rfl rfl rfl HR HB ?aL ?_; (case aL => omega); intro v1 w3 HR1 HB1))
          rw [← HT.out] at HR1
          go_roundw
          case rel => exact ⟨i + 1, v1, by go_num, rfl, ⟨by omega⟩, HR1, HB1⟩
          case measure => simp [intOf]; omega
        · have hk1 : ¬ ((i : Int) < (K.size : Int)) := by omega
          obtain rfl := HB2.out.2 hk
          rw [Nat.zero_xor] at HT
          replace hx8 : Go.bits .xor .u8 0 (c : Int) = _ := hx8
          go_wp2_with (first | ((with_reducible refine gate_builtin (b := .append) rfl ?_); at_builtin; refine app1 (Kd.int .u8) (.tmp 28) (.tmp 32) 42 5 (.int .u8 0) 1 rfl rfl Tryd.underlying42 infoU8 rfl (by decide) (by decide) _ _ _ _ rfl rfl rfl HR HB ?aL ?_; (case aL => omega); intro v1 w3 HR1 HB1))
          rw [← HT.out] at HR1
          go_roundw
          case rel => exact ⟨i + 1, v1, by go_num, rfl, ⟨by omega⟩, HR1, HB1⟩
          case measure => simp [intOf]; omega
      · obtain rfl : i = 64 := by have := Hi.out; omega
        have ht : L.take 64 = L := List.take_of_length_le (by have := HLen.out; omega)
        rw [ht] at HR
        have hs := own_string (P := Tryd.prog) Tryd.underlying42 Tryd.underlying5 Tryd.underlying9 (Kd.own_of_R HR.out)
        have i1 : ¬ ((64 : Int) < 64) := by omega
        clear ht
        go_wp2
        go_ret
        exact ⟨rfl, HB.out⟩
set_option maxHeartbeats 8000000 in
set_option maxRecDepth 100000 in
theorem RTag_any (A1 : Option Addr) (c1 : Nat) (A2 : Option Addr) (c2 : Nat) (key s : ByteArray) (w : World) (hK : KAt w A1 c1 A2 c2) (hk : key.size ≤ 100000) (hs : s.size ≤ 90000) :
    Calls Tryd.prog 35 #[kV A1 c1 A2 c2, .string key, .string s] w fun e w' => e = .returned (.string (tagF key s)) ∧ Below w.heap.size w w' := by
  have HP1 := Lib.hid (fun w1 (hg : Gr w w1) => RKey_any A1 c1 A2 c2 key 92 (by decide) w1 (hK.up hg) hk)
  have HP2 := Lib.hid (fun w1 (hg : Gr w w1) => RKey_any A1 c1 A2 c2 key 54 (by decide) w1 (hK.up hg) hk)
  have hp92 := padB_size key 92
  have hp54 := padB_size key 54
  have hsz := shaF_size (padB key 54 ++ s)
  unfold tagF
  generalize padB key 92 = p92 at *
  generalize padB key 54 = p54 at *
  have HA := Lib.hid (fun w1 (hg : Gr w w1) => ROf_any A1 c1 A2 c2 (p54 ++ s) w1 (hK.up hg) (by rw [ByteArray.size_append]; omega))
  have HC := Lib.hid (fun w1 (hg : Gr w w1) => ROf_any A1 c1 A2 c2 (p92 ++ shaF (p54 ++ s)) w1 (hK.up hg) (by rw [ByteArray.size_append]; omega))
  have hcat1 : ¬ (64 + s.size > 9223372036854775807) := by omega
  clear hK
  generalize shaF (p54 ++ s) = x at *
  generalize shaF (p92 ++ x) = y at *
  unfold kV at *
  have HO := (Own.start w).alloc' (.cells #[.slice A1 64 c1, .slice A2 8 c2] 33) rfl
  go_enter Tryd.func35, Tryd.ntmps35
  go_wp2_with fail
  refine kall [(2, true, some 9), (6, true, some 13), (8, true, some 15), (0, true, some 7), (1, true, some 8), (3, true, some 10), (4, true, some 11), (5, true, some 12), (7, true, some 14), (9, true, some 16), (10, true, some 17), (11, true, some 18), (12, true, some 19), (13, true, some 6)] (by kernel_rfl) rfl (by kernel_rfl) rfl (fun _ _ _ _ _ h => h) ?_
  (refine sP (v := ?_) (a' := ?_) rfl rfl (by rfl) ?_ ?_ ?_; rotate_left 2; (· intro w'; go_simp; with_reducible rfl); (· simp only [Act.put, List.setIfInBounds_toArray, List.set_cons_zero, List.set_cons_succ, kw64, kw32]; rfl))
  (refine sP (v := ?_) (a' := ?_) rfl rfl (by rfl) ?_ ?_ ?_; rotate_left 2; (· intro w'; go_simp; with_reducible rfl); (· simp only [Act.put, List.setIfInBounds_toArray, List.set_cons_zero, List.set_cons_succ, kw64, kw32]; rfl))
  (refine sP (v := ?_) (a' := ?_) rfl rfl (by rfl) ?_ ?_ ?_; rotate_left 2; (· intro w'; go_simp; with_reducible rfl); (· simp only [Act.put, List.setIfInBounds_toArray, List.set_cons_zero, List.set_cons_succ, kw64, kw32]; rfl))
  (refine sB (v := ?_) (a' := ?_) rfl rfl (by rfl) ?_ ?_ ?_; rotate_left 2; (· intro w1 hg; (refine Eq.trans (run_load_row 33 (.tmp 3) rfl w.heap.size (by rfl) _ #[.slice A1 64 c1, .slice A2 8 c2] _ _ ((HO.up hg).blk 0 rfl) Tryd.underlying33 rfl (by kernel_rfl)) ?_; with_reducible rfl)); (· simp only [Act.put, List.setIfInBounds_toArray, List.set_cons_zero, List.set_cons_succ, kw64, kw32]; rfl))
  (refine sB (v := ?_) (a' := ?_) rfl rfl (by rfl) ?_ ?_ ?_; rotate_left 2; (· intro w1 hg; (refine Eq.trans (run_load_row 33 (.tmp 3) rfl w.heap.size (by rfl) _ #[.slice A1 64 c1, .slice A2 8 c2] _ _ ((HO.up hg).blk 0 rfl) Tryd.underlying33 rfl (by kernel_rfl)) ?_; with_reducible rfl)); (· simp only [Act.put, List.setIfInBounds_toArray, List.set_cons_zero, List.set_cons_succ, kw64, kw32]; rfl))
  (refine sD (v := ?_) (a' := ?_) Tryd.func49 rfl rfl (by rfl) rfl (by kernel_rfl) rfl (by rfl) ?_ ?_ ?_; rotate_left 2; (· intro w1 hg; exact HP1.out w1 (HO.up hg).below); (· simp only [Act.put, List.setIfInBounds_toArray, List.set_cons_zero, List.set_cons_succ, kw64, kw32]; rfl))
  (refine sB (v := ?_) (a' := ?_) rfl rfl (by rfl) ?_ ?_ ?_; rotate_left 2; (· intro w1 hg; (refine Eq.trans (run_load_row 33 (.tmp 3) rfl w.heap.size (by rfl) _ #[.slice A1 64 c1, .slice A2 8 c2] _ _ ((HO.up hg).blk 0 rfl) Tryd.underlying33 rfl (by kernel_rfl)) ?_; with_reducible rfl)); (· simp only [Act.put, List.setIfInBounds_toArray, List.set_cons_zero, List.set_cons_succ, kw64, kw32]; rfl))
  (refine sB (v := ?_) (a' := ?_) rfl rfl (by rfl) ?_ ?_ ?_; rotate_left 2; (· intro w1 hg; (refine Eq.trans (run_load_row 33 (.tmp 3) rfl w.heap.size (by rfl) _ #[.slice A1 64 c1, .slice A2 8 c2] _ _ ((HO.up hg).blk 0 rfl) Tryd.underlying33 rfl (by kernel_rfl)) ?_; with_reducible rfl)); (· simp only [Act.put, List.setIfInBounds_toArray, List.set_cons_zero, List.set_cons_succ, kw64, kw32]; rfl))
  (refine sD (v := ?_) (a' := ?_) Tryd.func49 rfl rfl (by rfl) rfl (by kernel_rfl) rfl (by rfl) ?_ ?_ ?_; rotate_left 2; (· intro w1 hg; exact HP2.out w1 (HO.up hg).below); (· simp only [Act.put, List.setIfInBounds_toArray, List.set_cons_zero, List.set_cons_succ, kw64, kw32]; rfl))
  (refine sP (v := ?_) (a' := ?_) rfl rfl (by rfl) ?_ ?_ ?_; rotate_left 2; (· intro w'; go_simp; with_reducible rfl); (· simp only [Act.put, List.setIfInBounds_toArray, List.set_cons_zero, List.set_cons_succ, kw64, kw32]; rfl))
  (refine sD (v := ?_) (a' := ?_) Tryd.func48 rfl rfl (by rfl) rfl (by kernel_rfl) rfl (by rfl) ?_ ?_ ?_; rotate_left 2; (· intro w1 hg; exact HA.out w1 (HO.up hg).below); (· simp only [Act.put, List.setIfInBounds_toArray, List.set_cons_zero, List.set_cons_succ, kw64, kw32]; rfl))
  (refine sP (v := ?_) (a' := ?_) rfl rfl (by rfl) ?_ ?_ ?_; rotate_left 2; (· intro w'; go_simp; with_reducible rfl); (· simp only [Act.put, List.setIfInBounds_toArray, List.set_cons_zero, List.set_cons_succ, kw64, kw32]; rfl))
  (refine sD (v := ?_) (a' := ?_) Tryd.func48 rfl rfl (by rfl) rfl (by kernel_rfl) rfl (by rfl) ?_ ?_ ?_; rotate_left 2; (· intro w1 hg; exact HC.out w1 (HO.up hg).below); (· simp only [Act.put, List.setIfInBounds_toArray, List.set_cons_zero, List.set_cons_succ, kw64, kw32]; rfl))
  (refine sP (v := ?_) (a' := ?_) rfl rfl (by rfl) ?_ ?_ ?_; rotate_left 2; (· intro w'; go_simp; with_reducible rfl); (· simp only [Act.put, List.setIfInBounds_toArray, List.set_cons_zero, List.set_cons_succ, kw64, kw32]; rfl))
  intro w1 hg
  replace HO := HO.up hg
  clear hg
  go_wp2
  go_ret
  exact ⟨rfl, HO.below⟩
set_option maxHeartbeats 8000000 in
set_option maxRecDepth 100000 in
theorem RExpand_any (A1 : Option Addr) (c1 : Nat) (A2 : Option Addr) (c2 : Nat) (secret word : ByteArray) (many : Nat) (w : World) (hm : many ≤ 8160) (hs : secret.size ≤ 80000) (hw : word.size ≤ 10000) (hK : KAt w A1 c1 A2 c2) :
    Calls Tryd.prog 47 #[kV A1 c1 A2 c2, .string secret, .string word, .int .i64 (many : Int)] w fun e w' => e = .returned (.string (expF secret word many)) ∧ Below w.heap.size w w' := by
  have HK := Lib.hid (fun w1 (hg : Gr w w1) => hK.up hg)
  have HTg := Lib.hid (fun s w1 hk hss => RTag_any A1 c1 A2 c2 secret s w1 hk (show secret.size ≤ 100000 by omega) hss)
  clear hK
  unfold kV at *
  have HO := (Own.start w).alloc' (.cells #[.slice A1 64 c1, .slice A2 8 c2] 33) rfl
  go_enter Tryd.func47, Tryd.ntmps47
  go_wp2_with fail
  go_loopw [9, 10, 11] (fun c9 c10 c11 wr => ∃ n : Nat, c9 = .string (oN secret word n) ∧ c10 = .string (tN secret word n) ∧ c11 = .int .i64 ((n : Int) + 1) ∧ Aside0 (32 * n < many + 32) ∧ Own w [(w.heap.size, .cells #[.slice A1 64 c1, .slice A2 8 c2] 33 (0, 0))] wr) (fun _ _ c11 _ => 9000 - (intOf c11).toNat)
  case atStart => exact ⟨0, rfl, rfl, rfl, ⟨by omega⟩, HO⟩
  case round =>
    clear HO
    obtain ⟨n, rfl, rfl, rfl, HN, HO⟩ := hrel
    have hol := oN_size secret word n
    by_cases hlt : 32 * n < many
    · have hcmp : 32 * (n : Int) < (many : Int) := by omega
      have hn0 : (0 : Int) ≤ (n : Int) + 1 := by omega
      have hn1 : (n : Int) + 1 ≤ 255 := by omega
      have ht := tN_le secret word n
      have hcat1 : ¬ ((tN secret word n).size + word.size > 9223372036854775807) := by omega
      have hcat2 : ¬ ((tN secret word n ++ word).size + (⟨#[byn (n + 1)]⟩ : ByteArray).size > 9223372036854775807) := by
        rw [ByteArray.size_append]; show ¬ (_ + 1 > _); omega
      have hcat3 : ¬ (32 * n + 32 > 9223372036854775807) := by omega
      have hsz : (tN secret word n ++ word ++ (⟨#[byn (n + 1)]⟩ : ByteArray)).size ≤ 90000 := by
        rw [ByteArray.size_append, ByteArray.size_append]; show _ + 1 ≤ _; omega
      have hmod : ((n : Int) + 1) % 256 = (n : Int) + 1 := by omega
      have hto : ((n : Int) + 1).toNat = n + 1 := by omega
      have hT := fun w1 hg => HTg.out (tN secret word n ++ word ++ ⟨#[byn (n + 1)]⟩) w1 (HK.out w1 hg) hsz
      rw [show tagF secret (tN secret word n ++ word ++ ⟨#[byn (n + 1)]⟩) = tN secret word (n + 1) from rfl] at hT
      have HT := Lib.hid hT
      have hts := tN_size secret word n
      have HOn := Lib.hid (show oN secret word (n + 1) = oN secret word n ++ tN secret word (n + 1) from rfl)
      clear hsz hT
      have hcv := conv_lit1 Tryd.underlying42 Tryd.underlying5 Tryd.underlying9 wr ((n : Int) + 1)
      rw [hto, show UInt8.ofNat (n + 1) = byn (n + 1) from rfl] at hcv
      have c0 := HO.cell 0 rfl
      go_wp2_with fail
      clear hcv c0
      have HBS := below_alloc (Below.refl wr.heap.size wr) (.cells #[.int .u8 ((n : Int) + 1)] 5)
      replace HO := HO.up HBS
      refine (HT.out _ HO.below).mono ?_
      rintro e w2 ⟨rfl, hb⟩
      replace HO := HO.up hb
      clear hb HBS hcat1 hcat2 hmod
      go_wp2
      go_roundw
      case rel => exact ⟨n + 1, by rw [HOn.out], rfl, by go_num, ⟨by omega⟩, HO⟩
      case measure => simp [intOf]; omega
    · have hcmp : ¬ (32 * (n : Int) < (many : Int)) := by omega
      have hq : (many + 31) / 32 = n := by have := HN.out; omega
      have HE := Lib.hid (show (oN secret word n).extract 0 many = expF secret word many by unfold expF; rw [hq])
      have hsl0 : (0 : Int) ≤ (many : Int) := by omega
      have hsl1 : (many : Int) ≤ 32 * (n : Int) := by omega
      generalize oN secret word n = on at *
      go_wp2
      go_ret
      exact ⟨by rw [← HE.out]; rfl, HO.below⟩
set_option maxHeartbeats 8000000 in
set_option maxRecDepth 100000 in
theorem RSplit_any (A1 : Option Addr) (c1 : Nat) (A2 : Option Addr) (c2 : Nat) (secret word : ByteArray) (many : Nat) (w : World) (hm : many ≤ 255) (hs : secret.size ≤ 80000) (hw : word.size ≤ 10000) (hK : KAt w A1 c1 A2 c2) :
    Calls Tryd.prog 34 #[kV A1 c1 A2 c2, .string secret, .string word, .int .i64 (many : Int)] w fun e w' => (∃ A c, e = .returned (.slice A many c) ∧ many ≤ c ∧ Kd.string.C w' A many (splF secret word many)) ∧ Below w.heap.size w w' := by
  have m2 : (0 : Int) ≤ (many : Int) := by omega
  have m3 : (many : Int) ≤ 255 := by omega
  have hmul : IntKind.i64.wrap (32 * (many : Int)) = ((many * 32 : Nat) : Int) := by rw [kw64]; unfold wrap64; omega
  have HX := Lib.hid (fun w1 (hg : Gr w w1) => RExpand_any A1 c1 A2 c2 secret word (many * 32) w1 (by omega) hs hw (hK.up hg))
  have HSz := Lib.hid (expF_size secret word (many * 32))
  have HSp := Lib.hid (show splF secret word many = (List.range many).map (fun i => (expF secret word (many * 32)).extract (32 * i) (32 * i + 32)) from rfl)
  rw [HSp.out]
  clear hK HSp
  generalize expF secret word (many * 32) = x at *
  unfold kV at *
  have HO := (Own.start w).alloc' (.cells #[.slice A1 64 c1, .slice A2 8 c2] 33) rfl
  go_enter Tryd.func34, Tryd.ntmps34
  have c0 := HO.cell 0 rfl
  go_wp2_with fail
  clear c0
  refine (HX.out _ HO.below).mono ?_
  rintro e w1 ⟨rfl, hb⟩
  replace HO := HO.up hb
  have HB := Lib.hid HO.below
  clear hb hmul HX HO
  go_wp2_with (first | ((with_reducible refine gate_dst (N := 18) rfl ?_); refine Kd.R_lit Kd.string w.heap.size 9 ?hg (N := 18) ?hd (xs := ([] : List ByteArray)) (inner := []) (ok := fun _ => True) (okp := fun _ => True) ?hr ?hp (fun _ hk => hk) trivial HB.out HB.out.size (by simp) ?_; (case hd => rfl); (case hg => rfl); (case hr => first | (go_simp; done) | (go_simp; rfl)); (case hp => exact (Reps.none _ _)); intro v1 w1 HO HB1 hg hnew; clear hg hnew))
  have HO0 := Lib.hid (show Kd.R Kd.string 9 w1 w.heap.size (fun _ => True) v1 ((List.range 0).map (fun i => x.extract (32 * i) (32 * i + 32))) from HO)
  have HB0 := Lib.hid HB1
  clear HO HB1 HB
  go_loopw [10, 11] (fun c10 c11 wr => ∃ (i : Nat) (v : Value), c11 = .int .i64 (i : Int) ∧ c10 = v ∧ Aside0 (i ≤ many) ∧ Aside0 (Kd.string.R 9 wr w.heap.size (fun _ => True) v ((List.range i).map (fun i => x.extract (32 * i) (32 * i + 32)))) ∧ Aside0 (Below w.heap.size w wr)) (fun _ c11 _ => many - (intOf c11).toNat)
  case atStart => exact ⟨0, _, rfl, rfl, ⟨by omega⟩, ⟨HO0.out⟩, ⟨HB0.out⟩⟩
  case round =>
    clear HB0 HO0
    obtain ⟨i, v, rfl, rfl, Hi, HR, HB⟩ := hrel
    by_cases hlt : i < many
    · have i0 : (0 : Int) ≤ (i : Int) := by omega
      have i1 : (i : Int) < (many : Int) := by omega
      have hsl : 32 * (i : Int) + 32 ≤ (x.size : Int) := by rw [HSz.out]; omega
      have hq1 : (32 * (i : Int)).toNat = 32 * i := by omega
      have hq2 : (32 * (i : Int) + 32).toNat = 32 * i + 32 := by omega
      have HRs := Lib.hid (show (List.range (i + 1)).map (fun i => x.extract (32 * i) (32 * i + 32)) = (List.range i).map (fun i => x.extract (32 * i) (32 * i + 32)) ++ [x.extract (32 * i) (32 * i + 32)] by rw [List.range_succ, List.map_append]; rfl)
      have hlr : ((List.range i).map (fun i => x.extract (32 * i) (32 * i + 32))).length = i := by simp
      generalize (List.range i).map (fun i => x.extract (32 * i) (32 * i + 32)) = xs at *
      go_wp2_with (first | ((with_reducible refine gate_builtin (b := .append) rfl ?_); at_builtin; refine app1 Kd.string (.tmp 24) (.tmp 32) 44 9 (.string ⟨#[]⟩) 16 rfl rfl Tryd.underlying44 info_str rfl (by decide) (by decide) _ _ (x.extract (32 * i) (32 * i + 32)) _ rfl rfl rfl HR HB ?aL ?_; (case aL => omega); intro v1 w3 HR1 HB1))
      rw [← HRs.out] at HR1
      go_roundw
      case rel => exact ⟨i + 1, v1, by go_num, rfl, ⟨by omega⟩, HR1, HB1⟩
      case measure => simp [intOf]; omega
    · obtain rfl : i = many := by have := Hi.out; omega
      obtain ⟨A, c, rfl⟩ := Kd.R_slice HR.out
      have HRe := Lib.hid (Kd.R_reads' HR.out)
      rw [List.length_map, List.length_range] at HRe
      have hlr : ((List.range i).map (fun i => x.extract (32 * i) (32 * i + 32))).length = i := by simp
      have i1 : ¬ ((i : Int) < (i : Int)) := by omega
      go_wp2
      go_ret
      exact ⟨⟨A, c, rfl, HRe.out.2.1, HRe.out.2.2⟩, HB.out⟩
end Go.Proofs.YtpbaolijacimjaaDoor

set_option linter.unusedSimpArgs false
/- THE LISTED TABLE: what a row's list gives the walks (KeysAt), and a world for the witness. -/
namespace Go.Proofs.YtpbaolijacimjaaDoor
open Go.RowKit
theorem gKeys : Tryd.prog.globalNamed "demurral/digest.keys" = some 0 := by kernel_rfl
theorem gKeysType : (Tryd.prog.globals[0]?).map (·.type) = some 164 := by kernel_rfl
theorem cellsKeys : Tryd.prog.cellsOf 164 = 64 := by kernel_rfl
theorem cellsKey : Tryd.prog.cellsOf 83 = 1 := by kernel_rfl
theorem keys_laid : (Rows.laid_demurral_digest_keys : DataW Unit) = Lib.tabData .u32 (keyL.map fun n => ((n : Nat) : Int)) := by kernel_rfl
theorem keys_of {W : World} (h : laidMetH Tryd.prog [("demurral/digest.keys", Rows.laid_demurral_digest_keys)] W) : KeysAt W := by
  rw [keys_laid] at h
  have t : Lib.TabIs Tryd.prog W "demurral/digest.keys" .u32 (keyL.map fun n => ((n : Nat) : Int)) :=
    Lib.tabIs_of_head (rest := []) gKeys gKeysType Tryd.underlying164 Tryd.underlying83 cellsKey cellsKeys h
  unfold Lib.TabIs World.var? at t
  rw [gKeys] at t
  simp only [Option.bind_some] at t
  split at t
  · rename_i cs ty fr hh
    refine ⟨ty, fr, ?_⟩
    rw [hh, Option.some.inj t]
    unfold keysA
    rw [List.map_map]
    rfl
  · cases t
/-- a world for the witness: the settled one, the table holding what its initialiser lays -/
noncomputable def laidWorld (os : Os) : World :=
  { World.holding Tryd.prog os ⟨#[], #[], []⟩ with heap := (World.holding Tryd.prog os ⟨#[], #[], []⟩).heap.modify 0 fun
      | .cells _ t frozen => .cells keysA t frozen
      | o => o }
theorem laid_world (os : Os) (args : Array Value) : laidMet Tryd.prog [("demurral/digest.keys", Rows.laid_demurral_digest_keys)] ((laidWorld os).forCall (fun _ _ => 0) ⟨#[], args, []⟩).memory :=
  laidMet_of_run' 8 (by kernel_rfl) (by kernel_rfl)
/-- no parameter wants a stand-in, when the kinds say so one by one -/
theorem looks_off : false = Tryd.pinned.checked.prog.looks [] := by kernel_rfl
end Go.Proofs.YtpbaolijacimjaaDoor

namespace Go.Proofs.YtpbaolijacimjaaDoor
open Go.RowKit Go.Proofs.YtpbaolijacimjaaDoorW.PrintWords Go.ChangeShapes Go.WideShapes Go.Deep
theorem u64_bounds {k : Int} (h : (Lit.int .u64 k).wf = true) : 0 ≤ k ∧ k < 18446744073709551616 := by
  simp [Lit.wf, IntKind.min, IntKind.max, IntKind.signed, IntKind.bits] at h
  omega
section
variable {H : Type} {enc : TypeId × Value → H} {P : Program} {W : World}
/-- A slice argument, opened: each element by its own kind. -/
theorem open_C {α : Type} [Inhabited α] (k : Kd α) (WF : α → Prop) {t e : TypeId} (ht : P.underlying t = some (.slice e)) (hsz : P.cellsOf e = k.sz)
    (hel : ∀ n cs y, DataW.trod enc P W 0 (fun _ => true) true n e cs = some y → ∃ x, k.K W x cs ∧ WF x) {a : Option Addr} {len cap : Nat} {d : DataW H} {p : List MemPlace}
    (h : DataW.Trod enc P W 0 (fun _ => true) true t (.slice a len cap) d p) : ∃ xs, k.C W a len xs ∧ len ≤ cap ∧ cap ≤ 9223372036854775807 ∧ ∀ x ∈ xs, WF x := by
  obtain ⟨fuel, hf⟩ := h
  rcases open_slice ht hf with ⟨hcs, _⟩ | ⟨x, l, c, m, n, D, Pl, hcs, _, hl, hm, hmm, _, hx⟩
  · simp [Value.cells] at hcs
    obtain ⟨rfl, rfl, rfl⟩ := hcs
    exact ⟨[], Kd.C_nil k W, Nat.le_refl _, by omega, by simp⟩
  · simp [Value.cells] at hcs
    obtain ⟨rfl, rfl, rfl⟩ := hcs
    simp at hmm
    subst hmm
    have hm' : m ≤ 9223372036854775807 := by simpa [maxLen] using hm
    obtain ⟨f, hf⟩ := choose_lt (p := fun i (y : α) => ∃ cs, W.cells? 0 (x.add (i * P.cellsOf e)) (P.cellsOf e) = some cs ∧ k.K W y cs ∧ WF y) (fun i hi => by
      obtain ⟨cs, h1, h2⟩ := hx i hi
      obtain ⟨y, h3, h4⟩ := hel _ _ _ h2
      exact ⟨y, cs, h1, h3, h4⟩)
    refine ⟨(List.range len).map f, ⟨by simp, by omega, fun _ => ⟨x, rfl, fun j q hj => ?_⟩⟩, hl, hm', ?_⟩
    · have hj' : j < len := by have := (List.getElem?_eq_some_iff.1 hj).1; simpa using this
      have hq : f j = q := by simpa [List.getElem?_range hj'] using hj
      subst hq
      obtain ⟨cs, h1, h2, _⟩ := hf j (by omega)
      obtain ⟨_, h3, h4⟩ := World.cells?_some h1
      refine ⟨cs, by rw [k.K_len h2], h2, fun i u hu => ?_⟩
      have := h4 i (by have := (List.getElem?_eq_some_iff.1 hu).1; omega)
      rw [← hsz, ← Deep.add_add, this]; exact hu
    · intro y hy
      obtain ⟨i, hi, rfl⟩ := List.mem_map.1 hy
      obtain ⟨_, _, _, h⟩ := hf i (by have := List.mem_range.1 hi; omega)
      exact h
end
end Go.Proofs.YtpbaolijacimjaaDoor

import Derived.Test.YtfghjahmnjghgaaFrH
import Derived.Test.YtfghjahmnjghgaaFrI
import Derived.Test.YtfghjahmnjghgaaWireR
set_option linter.unusedSimpArgs false
set_option linter.unusedVariables false
/- LAYER 8: frames' bytes. -/
namespace Go.Proofs.Ytfghjahmnjghgaa
open Go.RowKit Go.Proofs.YtfghjahmnjghgaaW.PrintWords
theorem parts_le32 (f : FrD) (h : rightF f = true) : (partsP f).length ≤ 100 := by
  obtain ⟨_, _, _, _, hk, _⟩ := right_parts f h
  have := headP_len f
  unfold partsP
  rw [List.length_append]
  split
  · rw [List.length_cons, List.length_map]; omega
  · simp; omega
attribute [local irreducible] Calls
set_option maxHeartbeats 4000000 in
set_option maxRecDepth 100000 in
theorem FPut_no (f : FrD) (A : Option Addr) (cp : Nat) (w : World) (hC : Kd.string.C w A f.keys.length f.keys) (hc : f.keys.length ≤ cp) (hn : f.keys.length ≤ 1000000) (hr : rightF f = false) :
    Calls Try.prog 6 #[frV f (.slice A f.keys.length cp)] w fun e w' => e = .returned (.tuple #[.string ⟨#[]⟩, .int .i64 1]) ∧ Below w.heap.size w w' := by
  have HR := Lib.hid (fun w1 (hg : Below w.heap.size w w1) => Right_any f A cp w1 (Kd.C_below hC hg) hc hn)
  rw [hr] at HR
  clear hC hc hn hr
  obtain ⟨kd, a, b, c, i, ba, sg, on, ra, pv, nn, bo, ks⟩ := f
  unfold frV frC at *
  dsimp only at *
  generalize ks.length = n at *
  have HO := (Own.start w).alloc' (.cells #[.int .i64 kd, .int .u64 (a : Int), .int .u64 (b : Int), .int .u64 (c : Int), .string i, .string ba, .int .u64 (sg : Int), .int .u64 (on : Int), .string ra, .int .u64 (pv : Int), .int .u64 (nn : Int), .string bo, .slice A n cp] 25) rfl
  go_enter Try.func6, Try.ntmps6
  have c0 := HO.cell 0 rfl
  go_wp2_with fail
  refine (HR.out _ HO.below).mono ?_
  rintro e w1 ⟨rfl, hb⟩
  replace HO := HO.up hb
  clear hb c0
  go_wp2
  go_ret2
  exact ⟨rfl, HO.below⟩
set_option maxHeartbeats 4000000 in
set_option maxRecDepth 100000 in
theorem FPut_yes (f : FrD) (ho : okF f) (A : Option Addr) (cp : Nat) (w : World) (hC : Kd.string.C w A f.keys.length f.keys) (hc : f.keys.length ≤ cp) (hn : f.keys.length ≤ 1000000) (hr : rightF f = true) :
    Calls Try.prog 6 #[frV f (.slice A f.keys.length cp)] w fun e w' => e = .returned (.tuple #[.string (pk (partsP f)), .int .i64 0]) ∧ Below w.heap.size w w' := by
  obtain ⟨q1, q2, _⟩ := right_parts f hr
  have HR := Lib.hid (fun w1 (hg : Below w.heap.size w w1) => Right_any f A cp w1 (Kd.C_below hC hg) hc hn)
  rw [hr] at HR
  have HP := Lib.hid (fun w1 (hg : Below w.heap.size w w1) => parts_any f q1 q2 A cp w1 (Kd.C_below hC hg) hc hn)
  have HK := Lib.hid (fun B d w1 (hB : Kd.C kP w1 B (partsP f).length (partsP f)) => Pack_any B (partsP f).length d (partsP f) w1 hB (Nat.le_trans (parts_le32 f hr) (by decide)) (parts_nums f ⟨q1, q2⟩ ho hn))
  rw [packV_ok _ (parts_short f hr)] at HK
  clear hC hc hn hr ho q1 q2
  generalize partsP f = pl at *
  obtain ⟨kd, a, b, c, i, ba, sg, on, ra, pv, nn, bo, ks⟩ := f
  unfold frV frC at *
  dsimp only at *
  generalize ks.length = n at *
  have HO := (Own.start w).alloc' (.cells #[.int .i64 kd, .int .u64 (a : Int), .int .u64 (b : Int), .int .u64 (c : Int), .string i, .string ba, .int .u64 (sg : Int), .int .u64 (on : Int), .string ra, .int .u64 (pv : Int), .int .u64 (nn : Int), .string bo, .slice A n cp] 25) rfl
  go_enter Try.func6, Try.ntmps6
  have c0 := HO.cell 0 rfl
  go_wp2_with fail
  refine (HR.out _ HO.below).mono ?_
  rintro e w1 ⟨rfl, hb⟩
  replace HO := HO.up hb
  clear hb c0
  have c0 := HO.cell 0 rfl
  go_wp2_with fail
  refine (HP.out _ HO.below).mono ?_
  rintro e w2 ⟨⟨B, d, rfl, hd, hB⟩, hb⟩
  replace HO := HO.up hb
  have HB := Lib.hid hB
  clear hb c0 hB
  go_wp2_with fail
  refine (HK.out _ _ _ HB.out).mono ?_
  rintro e w3 ⟨rfl, hb⟩
  replace HO := HO.up hb
  clear hb HB
  go_wp2
  go_ret2
  exact ⟨rfl, HO.below⟩
set_option maxHeartbeats 4000000 in
set_option maxRecDepth 100000 in
theorem FHead_no (f : FrD) (A : Option Addr) (cp : Nat) (w : World) (hC : Kd.string.C w A f.keys.length f.keys) (hc : f.keys.length ≤ cp) (hn : f.keys.length ≤ 1000000) (hr : rightF f = false) :
    Calls Try.prog 7 #[frV f (.slice A f.keys.length cp)] w fun e w' => e = .returned (.tuple #[.string ⟨#[]⟩, .int .i64 1]) ∧ Below w.heap.size w w' := by
  have HR := Lib.hid (fun w1 (hg : Below w.heap.size w w1) => Right_any f A cp w1 (Kd.C_below hC hg) hc hn)
  rw [hr] at HR
  clear hC hc hn hr
  obtain ⟨kd, a, b, c, i, ba, sg, on, ra, pv, nn, bo, ks⟩ := f
  unfold frV frC at *
  dsimp only at *
  generalize ks.length = n at *
  have HO := (Own.start w).alloc' (.cells #[.int .i64 kd, .int .u64 (a : Int), .int .u64 (b : Int), .int .u64 (c : Int), .string i, .string ba, .int .u64 (sg : Int), .int .u64 (on : Int), .string ra, .int .u64 (pv : Int), .int .u64 (nn : Int), .string bo, .slice A n cp] 25) rfl
  go_enter Try.func7, Try.ntmps7
  have c0 := HO.cell 0 rfl
  go_wp2_with fail
  refine (HR.out _ HO.below).mono ?_
  rintro e w1 ⟨rfl, hb⟩
  replace HO := HO.up hb
  clear hb c0
  go_wp2
  go_ret2
  exact ⟨rfl, HO.below⟩
set_option maxHeartbeats 4000000 in
set_option maxRecDepth 100000 in
theorem FHead_yes (f : FrD) (ho : okF f) (A : Option Addr) (cp : Nat) (w : World) (hC : Kd.string.C w A f.keys.length f.keys) (hc : f.keys.length ≤ cp) (hn : f.keys.length ≤ 1000000) (hr : rightF f = true) :
    Calls Try.prog 7 #[frV f (.slice A f.keys.length cp)] w fun e w' => e = .returned (.tuple #[.string (pk (headP f)), .int .i64 0]) ∧ Below w.heap.size w w' := by
  obtain ⟨q1, q2, _⟩ := right_parts f hr
  have HR := Lib.hid (fun w1 (hg : Below w.heap.size w w1) => Right_any f A cp w1 (Kd.C_below hC hg) hc hn)
  rw [hr] at HR
  have HP := Lib.hid (fun w1 (hg : Below w.heap.size w w1) => head_any f q1 q2 A cp w1 (Kd.C_below hC hg) hc)
  have HK := Lib.hid (fun B d w1 (hB : Kd.C kP w1 B (headP f).length (headP f)) => Pack_any B (headP f).length d (headP f) w1 hB (Nat.le_trans (headP_len f) (by decide)) (head_nums f ⟨q1, q2⟩ ho))
  rw [packV_ok _ (head_short f hr)] at HK
  clear hC hc hn hr ho q1 q2
  generalize headP f = pl at *
  obtain ⟨kd, a, b, c, i, ba, sg, on, ra, pv, nn, bo, ks⟩ := f
  unfold frV frC at *
  dsimp only at *
  generalize ks.length = n at *
  have HO := (Own.start w).alloc' (.cells #[.int .i64 kd, .int .u64 (a : Int), .int .u64 (b : Int), .int .u64 (c : Int), .string i, .string ba, .int .u64 (sg : Int), .int .u64 (on : Int), .string ra, .int .u64 (pv : Int), .int .u64 (nn : Int), .string bo, .slice A n cp] 25) rfl
  go_enter Try.func7, Try.ntmps7
  have c0 := HO.cell 0 rfl
  go_wp2_with fail
  refine (HR.out _ HO.below).mono ?_
  rintro e w1 ⟨rfl, hb⟩
  replace HO := HO.up hb
  clear hb c0
  have c0 := HO.cell 0 rfl
  go_wp2_with fail
  refine (HP.out _ HO.below).mono ?_
  rintro e w2 ⟨⟨B, d, rfl, hd, hB⟩, hb⟩
  replace HO := HO.up hb
  have HB := Lib.hid hB
  clear hb c0 hB
  go_wp2_with fail
  refine (HK.out _ _ _ HB.out).mono ?_
  rintro e w3 ⟨rfl, hb⟩
  replace HO := HO.up hb
  clear hb HB
  go_wp2
  go_ret2
  exact ⟨rfl, HO.below⟩
set_option maxHeartbeats 1000000 in
theorem text08 (s : ByteArray) (w : World) (h : s.size ≤ 1024) : Calls Try.prog 32 #[.string s] w fun e w' => e = .returned (.string (oneS (txtP s))) ∧ Below w.heap.size w w' := by
  have HO := Lib.hid (fun w1 => show Calls Try.prog 47 #[.agg #[.bool true, .int .u64 0, .string s]] w1 (fun e w' => e = .returned (.string (oneS (txtP s))) ∧ Below w1.heap.size w1 w') from ROne_any (txtP s) w1 (show (0 : Nat) < _ by decide) (txt_short s h))
  generalize oneS (txtP s) = r at *
  go_enter Try.func32, Try.ntmps32
  go_wp2_with fail
  refine (HO.out _).mono ?_
  rintro e w1 ⟨rfl, hb⟩
  go_wp2
  go_ret
  exact ⟨rfl, hb⟩
end Go.Proofs.Ytfghjahmnjghgaa

import Derived.Test.YtfghjahmnjghgaaPFrx0
namespace Go.Proofs.Ytfghjahmnjghgaa.PFr
open Go.RowKit Go.Proofs.YtfghjahmnjghgaaW.PrintWords Go.Proofs.YtfghjahmnjghgaaW.PrintLast Go.Proofs.YtfghjahmnjghgaaW.PrintMore
attribute [local go_sem] max2_int min2_int max_two min_two max_three min_three max_four min_four   -- for this text's walks alone
set_option linter.unusedVariables false
set_option linter.unusedSimpArgs false

/-! ### demurralref08_Same: function 11 -/
mutual
def demurralref08_Same.j0 : Nat → Bool → Int → Int → Int → Int → ByteArray → ByteArray → Int → Int → ByteArray → Int → Int → ByteArray → List ByteArray → Int → Int → Int → Int → ByteArray → ByteArray → Int → Int → ByteArray → Int → Int → ByteArray → List ByteArray → Option (Bool)
  | 0, _, _, _, _, _, _, _, _, _, _, _, _, _, _, _, _, _, _, _, _, _, _, _, _, _, _, _ => none
  | k + 1, x45, x234000, x234001, x234002, x234003, x234004, x234005, x234006, x234007, x234008, x234009, x234010, x234011, x234012, x235000, x235001, x235002, x235003, x235004, x235005, x235006, x235007, x235008, x235009, x235010, x235011, x235012 => if x45 = true then (some false) else (if x234006 = x235006 then (if x234007 = x235007 then (if x234008.toList = x235008.toList then (if x234009 = x235009 then (if x234010 = x235010 then (if x234011.toList = x235011.toList then (demurralref08_Same.j1 k ((x234012.length : Int) != (x235012.length : Int)) x234000 x234001 x234002 x234003 x234004 x234005 x234006 x234007 x234008 x234009 x234010 x234011 x234012 x235000 x235001 x235002 x235003 x235004 x235005 x235006 x235007 x235008 x235009 x235010 x235011 x235012) else (demurralref08_Same.j1 k true x234000 x234001 x234002 x234003 x234004 x234005 x234006 x234007 x234008 x234009 x234010 x234011 x234012 x235000 x235001 x235002 x235003 x235004 x235005 x235006 x235007 x235008 x235009 x235010 x235011 x235012)) else (demurralref08_Same.j1 k true x234000 x234001 x234002 x234003 x234004 x234005 x234006 x234007 x234008 x234009 x234010 x234011 x234012 x235000 x235001 x235002 x235003 x235004 x235005 x235006 x235007 x235008 x235009 x235010 x235011 x235012)) else (demurralref08_Same.j1 k true x234000 x234001 x234002 x234003 x234004 x234005 x234006 x234007 x234008 x234009 x234010 x234011 x234012 x235000 x235001 x235002 x235003 x235004 x235005 x235006 x235007 x235008 x235009 x235010 x235011 x235012)) else (demurralref08_Same.j1 k true x234000 x234001 x234002 x234003 x234004 x234005 x234006 x234007 x234008 x234009 x234010 x234011 x234012 x235000 x235001 x235002 x235003 x235004 x235005 x235006 x235007 x235008 x235009 x235010 x235011 x235012)) else (demurralref08_Same.j1 k true x234000 x234001 x234002 x234003 x234004 x234005 x234006 x234007 x234008 x234009 x234010 x234011 x234012 x235000 x235001 x235002 x235003 x235004 x235005 x235006 x235007 x235008 x235009 x235010 x235011 x235012)) else (demurralref08_Same.j1 k true x234000 x234001 x234002 x234003 x234004 x234005 x234006 x234007 x234008 x234009 x234010 x234011 x234012 x235000 x235001 x235002 x235003 x235004 x235005 x235006 x235007 x235008 x235009 x235010 x235011 x235012))
def demurralref08_Same.j1 : Nat → Bool → Int → Int → Int → Int → ByteArray → ByteArray → Int → Int → ByteArray → Int → Int → ByteArray → List ByteArray → Int → Int → Int → Int → ByteArray → ByteArray → Int → Int → ByteArray → Int → Int → ByteArray → List ByteArray → Option (Bool)
  | 0, _, _, _, _, _, _, _, _, _, _, _, _, _, _, _, _, _, _, _, _, _, _, _, _, _, _, _ => none
  | k + 1, x94, x234000, x234001, x234002, x234003, x234004, x234005, x234006, x234007, x234008, x234009, x234010, x234011, x234012, x235000, x235001, x235002, x235003, x235004, x235005, x235006, x235007, x235008, x235009, x235010, x235011, x235012 => if x94 = true then (some false) else (demurralref08_Same.l0 k (x234012.length : Int) 0 x234000 x234001 x234002 x234003 x234004 x234005 x234006 x234007 x234008 x234009 x234010 x234011 x234012 x235000 x235001 x235002 x235003 x235004 x235005 x235006 x235007 x235008 x235009 x235010 x235011 x235012)
def demurralref08_Same.l0 : Nat → Int → Int → Int → Int → Int → Int → ByteArray → ByteArray → Int → Int → ByteArray → Int → Int → ByteArray → List ByteArray → Int → Int → Int → Int → ByteArray → ByteArray → Int → Int → ByteArray → Int → Int → ByteArray → List ByteArray → Option (Bool)
  | 0, _, _, _, _, _, _, _, _, _, _, _, _, _, _, _, _, _, _, _, _, _, _, _, _, _, _, _, _ => none
  | k + 1, x97, x98, x234000, x234001, x234002, x234003, x234004, x234005, x234006, x234007, x234008, x234009, x234010, x234011, x234012, x235000, x235001, x235002, x235003, x235004, x235005, x235006, x235007, x235008, x235009, x235010, x235011, x235012 => if x98 < x97 then (if 0 ≤ x98 then (if x98 < (x234012.length : Int) then (if x98 < (x235012.length : Int) then (if (rdOf ByteArray.empty x234012 x98).toList = (rdOf ByteArray.empty x235012 x98).toList then (demurralref08_Same.l0 k x97 (wrap64 (x98 + 1)) x234000 x234001 x234002 x234003 x234004 x234005 x234006 x234007 x234008 x234009 x234010 x234011 x234012 x235000 x235001 x235002 x235003 x235004 x235005 x235006 x235007 x235008 x235009 x235010 x235011 x235012) else (some false)) else (none)) else (none)) else (none)) else (some true)
end
def demurralref08_Same.f (k : Nat) (a0_0 : Int) (a0_1 : Int) (a0_2 : Int) (a0_3 : Int) (a0_4 : ByteArray) (a0_5 : ByteArray) (a0_6 : Int) (a0_7 : Int) (a0_8 : ByteArray) (a0_9 : Int) (a0_10 : Int) (a0_11 : ByteArray) (l0_12 : List ByteArray) (a1_0 : Int) (a1_1 : Int) (a1_2 : Int) (a1_3 : Int) (a1_4 : ByteArray) (a1_5 : ByteArray) (a1_6 : Int) (a1_7 : Int) (a1_8 : ByteArray) (a1_9 : Int) (a1_10 : Int) (a1_11 : ByteArray) (l1_12 : List ByteArray) : Option (Bool) := if a0_0 = a1_0 then (if a0_1 = a1_1 then (if a0_2 = a1_2 then (if a0_3 = a1_3 then (if a0_4.toList = a1_4.toList then (demurralref08_Same.j0 k (a0_5.toList != a1_5.toList) a0_0 a0_1 a0_2 a0_3 a0_4 a0_5 a0_6 a0_7 a0_8 a0_9 a0_10 a0_11 l0_12 a1_0 a1_1 a1_2 a1_3 a1_4 a1_5 a1_6 a1_7 a1_8 a1_9 a1_10 a1_11 l1_12) else (demurralref08_Same.j0 k true a0_0 a0_1 a0_2 a0_3 a0_4 a0_5 a0_6 a0_7 a0_8 a0_9 a0_10 a0_11 l0_12 a1_0 a1_1 a1_2 a1_3 a1_4 a1_5 a1_6 a1_7 a1_8 a1_9 a1_10 a1_11 l1_12)) else (demurralref08_Same.j0 k true a0_0 a0_1 a0_2 a0_3 a0_4 a0_5 a0_6 a0_7 a0_8 a0_9 a0_10 a0_11 l0_12 a1_0 a1_1 a1_2 a1_3 a1_4 a1_5 a1_6 a1_7 a1_8 a1_9 a1_10 a1_11 l1_12)) else (demurralref08_Same.j0 k true a0_0 a0_1 a0_2 a0_3 a0_4 a0_5 a0_6 a0_7 a0_8 a0_9 a0_10 a0_11 l0_12 a1_0 a1_1 a1_2 a1_3 a1_4 a1_5 a1_6 a1_7 a1_8 a1_9 a1_10 a1_11 l1_12)) else (demurralref08_Same.j0 k true a0_0 a0_1 a0_2 a0_3 a0_4 a0_5 a0_6 a0_7 a0_8 a0_9 a0_10 a0_11 l0_12 a1_0 a1_1 a1_2 a1_3 a1_4 a1_5 a1_6 a1_7 a1_8 a1_9 a1_10 a1_11 l1_12)) else (demurralref08_Same.j0 k true a0_0 a0_1 a0_2 a0_3 a0_4 a0_5 a0_6 a0_7 a0_8 a0_9 a0_10 a0_11 l0_12 a1_0 a1_1 a1_2 a1_3 a1_4 a1_5 a1_6 a1_7 a1_8 a1_9 a1_10 a1_11 l1_12)
theorem demurralref08_Same.mono_l : ∀ k, (∀ y0 y1 y2 y3 y4 y5 y6 y7 y8 y9 y10 y11 y12 y13 y14 y15 y16 y17 y18 y19 y20 y21 y22 y23 y24 y25 y26, LeO (demurralref08_Same.j0 k y0 y1 y2 y3 y4 y5 y6 y7 y8 y9 y10 y11 y12 y13 y14 y15 y16 y17 y18 y19 y20 y21 y22 y23 y24 y25 y26) (demurralref08_Same.j0 (k + 1) y0 y1 y2 y3 y4 y5 y6 y7 y8 y9 y10 y11 y12 y13 y14 y15 y16 y17 y18 y19 y20 y21 y22 y23 y24 y25 y26)) ∧ (∀ y0 y1 y2 y3 y4 y5 y6 y7 y8 y9 y10 y11 y12 y13 y14 y15 y16 y17 y18 y19 y20 y21 y22 y23 y24 y25 y26, LeO (demurralref08_Same.j1 k y0 y1 y2 y3 y4 y5 y6 y7 y8 y9 y10 y11 y12 y13 y14 y15 y16 y17 y18 y19 y20 y21 y22 y23 y24 y25 y26) (demurralref08_Same.j1 (k + 1) y0 y1 y2 y3 y4 y5 y6 y7 y8 y9 y10 y11 y12 y13 y14 y15 y16 y17 y18 y19 y20 y21 y22 y23 y24 y25 y26)) ∧ (∀ y0 y1 y2 y3 y4 y5 y6 y7 y8 y9 y10 y11 y12 y13 y14 y15 y16 y17 y18 y19 y20 y21 y22 y23 y24 y25 y26 y27, LeO (demurralref08_Same.l0 k y0 y1 y2 y3 y4 y5 y6 y7 y8 y9 y10 y11 y12 y13 y14 y15 y16 y17 y18 y19 y20 y21 y22 y23 y24 y25 y26 y27) (demurralref08_Same.l0 (k + 1) y0 y1 y2 y3 y4 y5 y6 y7 y8 y9 y10 y11 y12 y13 y14 y15 y16 y17 y18 y19 y20 y21 y22 y23 y24 y25 y26 y27))
  | 0 => ⟨fun _ _ _ _ _ _ _ _ _ _ _ _ _ _ _ _ _ _ _ _ _ _ _ _ _ _ _ r h => by simp [demurralref08_Same.j0] at h, fun _ _ _ _ _ _ _ _ _ _ _ _ _ _ _ _ _ _ _ _ _ _ _ _ _ _ _ r h => by simp [demurralref08_Same.j1] at h, fun _ _ _ _ _ _ _ _ _ _ _ _ _ _ _ _ _ _ _ _ _ _ _ _ _ _ _ _ r h => by simp [demurralref08_Same.l0] at h⟩
  | k + 1 => by
    obtain ⟨ih0, ih1, ih2⟩ := demurralref08_Same.mono_l k
    refine ⟨?_, ?_, ?_⟩
    · intro y0 y1 y2 y3 y4 y5 y6 y7 y8 y9 y10 y11 y12 y13 y14 y15 y16 y17 y18 y19 y20 y21 y22 y23 y24 y25 y26
      unfold demurralref08_Same.j0
      repeat' first
      | (with_reducible exact ih0 _ _ _ _ _ _ _ _ _ _ _ _ _ _ _ _ _ _ _ _ _ _ _ _ _ _ _)
      | (with_reducible exact ih1 _ _ _ _ _ _ _ _ _ _ _ _ _ _ _ _ _ _ _ _ _ _ _ _ _ _ _)
      | (with_reducible exact ih2 _ _ _ _ _ _ _ _ _ _ _ _ _ _ _ _ _ _ _ _ _ _ _ _ _ _ _ _)
      | (with_reducible exact LeO.refl _)
      | (with_reducible exact LeO.none _)
      | (with_reducible refine LeO.ite ?_ ?_)
      | (with_reducible refine LeO.bind ?_ (fun _ => ?_))
      | exact ih0 _ _ _ _ _ _ _ _ _ _ _ _ _ _ _ _ _ _ _ _ _ _ _ _ _ _ _
      | exact ih1 _ _ _ _ _ _ _ _ _ _ _ _ _ _ _ _ _ _ _ _ _ _ _ _ _ _ _
      | exact ih2 _ _ _ _ _ _ _ _ _ _ _ _ _ _ _ _ _ _ _ _ _ _ _ _ _ _ _ _
      | exact LeO.none _
      | refine LeO.ite ?_ ?_
      | refine LeO.bind ?_ (fun _ => ?_)
    · intro y0 y1 y2 y3 y4 y5 y6 y7 y8 y9 y10 y11 y12 y13 y14 y15 y16 y17 y18 y19 y20 y21 y22 y23 y24 y25 y26
      unfold demurralref08_Same.j1
      repeat' first
      | (with_reducible exact ih0 _ _ _ _ _ _ _ _ _ _ _ _ _ _ _ _ _ _ _ _ _ _ _ _ _ _ _)
      | (with_reducible exact ih1 _ _ _ _ _ _ _ _ _ _ _ _ _ _ _ _ _ _ _ _ _ _ _ _ _ _ _)
      | (with_reducible exact ih2 _ _ _ _ _ _ _ _ _ _ _ _ _ _ _ _ _ _ _ _ _ _ _ _ _ _ _ _)
      | (with_reducible exact LeO.refl _)
      | (with_reducible exact LeO.none _)
      | (with_reducible refine LeO.ite ?_ ?_)
      | (with_reducible refine LeO.bind ?_ (fun _ => ?_))
      | exact ih0 _ _ _ _ _ _ _ _ _ _ _ _ _ _ _ _ _ _ _ _ _ _ _ _ _ _ _
      | exact ih1 _ _ _ _ _ _ _ _ _ _ _ _ _ _ _ _ _ _ _ _ _ _ _ _ _ _ _
      | exact ih2 _ _ _ _ _ _ _ _ _ _ _ _ _ _ _ _ _ _ _ _ _ _ _ _ _ _ _ _
      | exact LeO.none _
      | refine LeO.ite ?_ ?_
      | refine LeO.bind ?_ (fun _ => ?_)
    · intro y0 y1 y2 y3 y4 y5 y6 y7 y8 y9 y10 y11 y12 y13 y14 y15 y16 y17 y18 y19 y20 y21 y22 y23 y24 y25 y26 y27
      unfold demurralref08_Same.l0
      repeat' first
      | (with_reducible exact ih0 _ _ _ _ _ _ _ _ _ _ _ _ _ _ _ _ _ _ _ _ _ _ _ _ _ _ _)
      | (with_reducible exact ih1 _ _ _ _ _ _ _ _ _ _ _ _ _ _ _ _ _ _ _ _ _ _ _ _ _ _ _)
      | (with_reducible exact ih2 _ _ _ _ _ _ _ _ _ _ _ _ _ _ _ _ _ _ _ _ _ _ _ _ _ _ _ _)
      | (with_reducible exact LeO.refl _)
      | (with_reducible exact LeO.none _)
      | (with_reducible refine LeO.ite ?_ ?_)
      | (with_reducible refine LeO.bind ?_ (fun _ => ?_))
      | exact ih0 _ _ _ _ _ _ _ _ _ _ _ _ _ _ _ _ _ _ _ _ _ _ _ _ _ _ _
      | exact ih1 _ _ _ _ _ _ _ _ _ _ _ _ _ _ _ _ _ _ _ _ _ _ _ _ _ _ _
      | exact ih2 _ _ _ _ _ _ _ _ _ _ _ _ _ _ _ _ _ _ _ _ _ _ _ _ _ _ _ _
      | exact LeO.none _
      | refine LeO.ite ?_ ?_
      | refine LeO.bind ?_ (fun _ => ?_)
theorem demurralref08_Same.mono : ∀ a0 a1 a2 a3 a4 a5 a6 a7 a8 a9 a10 a11 a12 a13 a14 a15 a16 a17 a18 a19 a20 a21 a22 a23 a24 a25 k, LeO (demurralref08_Same.f k a0 a1 a2 a3 a4 a5 a6 a7 a8 a9 a10 a11 a12 a13 a14 a15 a16 a17 a18 a19 a20 a21 a22 a23 a24 a25) (demurralref08_Same.f (k + 1) a0 a1 a2 a3 a4 a5 a6 a7 a8 a9 a10 a11 a12 a13 a14 a15 a16 a17 a18 a19 a20 a21 a22 a23 a24 a25) := by
  intro a0 a1 a2 a3 a4 a5 a6 a7 a8 a9 a10 a11 a12 a13 a14 a15 a16 a17 a18 a19 a20 a21 a22 a23 a24 a25 k
  obtain ⟨ih0, ih1, ih2⟩ := demurralref08_Same.mono_l k
  unfold demurralref08_Same.f
  repeat' first
      | (with_reducible exact ih0 _ _ _ _ _ _ _ _ _ _ _ _ _ _ _ _ _ _ _ _ _ _ _ _ _ _ _)
      | (with_reducible exact ih1 _ _ _ _ _ _ _ _ _ _ _ _ _ _ _ _ _ _ _ _ _ _ _ _ _ _ _)
      | (with_reducible exact ih2 _ _ _ _ _ _ _ _ _ _ _ _ _ _ _ _ _ _ _ _ _ _ _ _ _ _ _ _)
      | (with_reducible exact LeO.refl _)
      | (with_reducible exact LeO.none _)
      | (with_reducible refine LeO.ite ?_ ?_)
      | (with_reducible refine LeO.bind ?_ (fun _ => ?_))
      | exact ih0 _ _ _ _ _ _ _ _ _ _ _ _ _ _ _ _ _ _ _ _ _ _ _ _ _ _ _
      | exact ih1 _ _ _ _ _ _ _ _ _ _ _ _ _ _ _ _ _ _ _ _ _ _ _ _ _ _ _
      | exact ih2 _ _ _ _ _ _ _ _ _ _ _ _ _ _ _ _ _ _ _ _ _ _ _ _ _ _ _ _
      | exact LeO.none _
      | refine LeO.ite ?_ ?_
      | refine LeO.bind ?_ (fun _ => ?_)
set_option maxHeartbeats 8000000 in
set_option maxRecDepth 100000 in
theorem demurralref08_Same.calls (k : Nat) (a0_0 : Int) (a0_1 : Int) (a0_2 : Int) (a0_3 : Int) (a0_4 : ByteArray) (a0_5 : ByteArray) (a0_6 : Int) (a0_7 : Int) (a0_8 : ByteArray) (a0_9 : Int) (a0_10 : Int) (a0_11 : ByteArray) (A0_12 : Option Addr) (c0_12 : Nat) (l0_12 : List ByteArray) (a1_0 : Int) (a1_1 : Int) (a1_2 : Int) (a1_3 : Int) (a1_4 : ByteArray) (a1_5 : ByteArray) (a1_6 : Int) (a1_7 : Int) (a1_8 : ByteArray) (a1_9 : Int) (a1_10 : Int) (a1_11 : ByteArray) (A1_12 : Option Addr) (c1_12 : Nat) (l1_12 : List ByteArray) (r : Bool) (w : World) (hr0_12 : Kd.C Kd.string w A0_12 l0_12.length l0_12) (hc0_12 : l0_12.length ≤ c0_12) (hr1_12 : Kd.C Kd.string w A1_12 l1_12.length l1_12) (hc1_12 : l1_12.length ≤ c1_12) (h : demurralref08_Same.f k a0_0 a0_1 a0_2 a0_3 a0_4 a0_5 a0_6 a0_7 a0_8 a0_9 a0_10 a0_11 l0_12 a1_0 a1_1 a1_2 a1_3 a1_4 a1_5 a1_6 a1_7 a1_8 a1_9 a1_10 a1_11 l1_12 = some r) :
    Calls Try.prog 11 #[.agg #[.int .i64 a0_0, .int .u64 a0_1, .int .u64 a0_2, .int .u64 a0_3, .string a0_4, .string a0_5, .int .u64 a0_6, .int .u64 a0_7, .string a0_8, .int .u64 a0_9, .int .u64 a0_10, .string a0_11, .slice A0_12 l0_12.length c0_12], .agg #[.int .i64 a1_0, .int .u64 a1_1, .int .u64 a1_2, .int .u64 a1_3, .string a1_4, .string a1_5, .int .u64 a1_6, .int .u64 a1_7, .string a1_8, .int .u64 a1_9, .int .u64 a1_10, .string a1_11, .slice A1_12 l1_12.length c1_12]] w fun e w' => e = .returned (.bool r) ∧ Below w.heap.size w w' := by
  have hu25 := Try.underlying25
  have HR0_12 := Aside0.mk hr0_12
  have HC0_12 := Aside0.mk hc0_12
  clear hr0_12 hc0_12
  have HR1_12 := Aside0.mk hr1_12
  have HC1_12 := Aside0.mk hc1_12
  clear hr1_12 hc1_12
  have HB := Aside0.mk (Below.refl w.heap.size w)
  have H : (if a0_0 = a1_0 then (if a0_1 = a1_1 then (if a0_2 = a1_2 then (if a0_3 = a1_3 then (if a0_4.toList = a1_4.toList then (demurralref08_Same.j0 k (a0_5.toList != a1_5.toList) a0_0 a0_1 a0_2 a0_3 a0_4 a0_5 a0_6 a0_7 a0_8 a0_9 a0_10 a0_11 l0_12 a1_0 a1_1 a1_2 a1_3 a1_4 a1_5 a1_6 a1_7 a1_8 a1_9 a1_10 a1_11 l1_12) else (demurralref08_Same.j0 k true a0_0 a0_1 a0_2 a0_3 a0_4 a0_5 a0_6 a0_7 a0_8 a0_9 a0_10 a0_11 l0_12 a1_0 a1_1 a1_2 a1_3 a1_4 a1_5 a1_6 a1_7 a1_8 a1_9 a1_10 a1_11 l1_12)) else (demurralref08_Same.j0 k true a0_0 a0_1 a0_2 a0_3 a0_4 a0_5 a0_6 a0_7 a0_8 a0_9 a0_10 a0_11 l0_12 a1_0 a1_1 a1_2 a1_3 a1_4 a1_5 a1_6 a1_7 a1_8 a1_9 a1_10 a1_11 l1_12)) else (demurralref08_Same.j0 k true a0_0 a0_1 a0_2 a0_3 a0_4 a0_5 a0_6 a0_7 a0_8 a0_9 a0_10 a0_11 l0_12 a1_0 a1_1 a1_2 a1_3 a1_4 a1_5 a1_6 a1_7 a1_8 a1_9 a1_10 a1_11 l1_12)) else (demurralref08_Same.j0 k true a0_0 a0_1 a0_2 a0_3 a0_4 a0_5 a0_6 a0_7 a0_8 a0_9 a0_10 a0_11 l0_12 a1_0 a1_1 a1_2 a1_3 a1_4 a1_5 a1_6 a1_7 a1_8 a1_9 a1_10 a1_11 l1_12)) else (demurralref08_Same.j0 k true a0_0 a0_1 a0_2 a0_3 a0_4 a0_5 a0_6 a0_7 a0_8 a0_9 a0_10 a0_11 l0_12 a1_0 a1_1 a1_2 a1_3 a1_4 a1_5 a1_6 a1_7 a1_8 a1_9 a1_10 a1_11 l1_12)) = some r := h
  clear h
  have HC3 := Aside0.mk H
  clear H
  go_enter Try.func11, Try.ntmps11
  go_upto_region 1 with (first | ((with_reducible refine gate_dst (N := 2) rfl ?_); (try (refine gate_guard (by rfl) ?_; dsimp only)); refine box_event ?hg (N := 2) ?hd (cs := #[.int .i64 a0_0, .int .u64 a0_1, .int .u64 a0_2, .int .u64 a0_3, .string a0_4, .string a0_5, .int .u64 a0_6, .int .u64 a0_7, .string a0_8, .int .u64 a0_9, .int .u64 a0_10, .string a0_11, .slice A0_12 l0_12.length c0_12]) (t := 25) ?hr ?_; (case hd => rfl); (case hg => rfl); (case hr => first | (go_simp; done) | (go_simp; rfl)); intro gb233 hg w4 hbox hb; have n0_ := Aside0.mk (below_step (by repeat (first | (with_reducible first | exact HB.out | apply below_alloc | apply pw_below_drewN | apply below_drew1) | exact HB.out)) hb); have n1_ := Aside0.mk (hbox); have n2_ := Aside0.mk ((by rw [hg]; exact (below_size (by repeat (first | (with_reducible first | exact HB.out | apply below_alloc | apply pw_below_drewN | apply below_drew1) | exact HB.out))) : w.heap.size ≤ gb233)); have n3_ := Aside0.mk ((by rw [hg]; exact (below_size (by repeat (first | (with_reducible first | exact HB.out | apply below_alloc | apply pw_below_drewN | apply below_drew1) | exact HB.out))) : w.heap.size ≤ gb233)); clear HB; have HB := n0_; have BK233 := n1_; have GW233 := n2_; have GE233 := n3_; clear n0_ n1_ n2_ n3_; clear hb hbox hg) | ((with_reducible refine gate_dst (N := 3) rfl ?_); (try (refine gate_guard (by rfl) ?_; dsimp only)); refine box_event ?hg (N := 3) ?hd (cs := #[.int .i64 a1_0, .int .u64 a1_1, .int .u64 a1_2, .int .u64 a1_3, .string a1_4, .string a1_5, .int .u64 a1_6, .int .u64 a1_7, .string a1_8, .int .u64 a1_9, .int .u64 a1_10, .string a1_11, .slice A1_12 l1_12.length c1_12]) (t := 25) ?hr ?_; (case hd => rfl); (case hg => rfl); (case hr => first | (go_simp; done) | (go_simp; rfl)); intro gb234 hg w5 hbox hb; have n0_ := Aside0.mk (blk_below (g := gb233) (o := .cells #[.int .i64 a0_0, .int .u64 a0_1, .int .u64 a0_2, .int .u64 a0_3, .string a0_4, .string a0_5, .int .u64 a0_6, .int .u64 a0_7, .string a0_8, .int .u64 a0_9, .int .u64 a0_10, .string a0_11, .slice A0_12 l0_12.length c0_12] 25 (0, 0)) (by (with_reducible repeat (first | refine blk_drewN ?_ _ | refine blk_drew ?_ | refine blk_alloc ?_ _)); exact BK233.out) hb); have n1_ := Aside0.mk (below_step (by repeat (first | (with_reducible first | exact HB.out | apply below_alloc | apply pw_below_drewN | apply below_drew1 | refine below_set ?_ GE233.out) | exact HB.out)) hb); have n2_ := Aside0.mk (hbox); have n3_ := Aside0.mk ((by rw [hg]; exact (below_size (by repeat (first | (with_reducible first | exact HB.out | apply below_alloc | apply pw_below_drewN | apply below_drew1 | refine below_set ?_ GE233.out) | exact HB.out))) : w.heap.size ≤ gb234)); have n4_ := Aside0.mk ((by rw [hg]; exact (below_size (by repeat (first | (with_reducible first | exact HB.out | apply below_alloc | apply pw_below_drewN | apply below_drew1 | refine below_set ?_ GE233.out) | exact HB.out))) : w.heap.size ≤ gb234)); have n5_ := Aside0.mk ((by rw [hg]; exact Nat.ne_of_lt (blk_lt (g := gb233) (o := .cells #[.int .i64 a0_0, .int .u64 a0_1, .int .u64 a0_2, .int .u64 a0_3, .string a0_4, .string a0_5, .int .u64 a0_6, .int .u64 a0_7, .string a0_8, .int .u64 a0_9, .int .u64 a0_10, .string a0_11, .slice A0_12 l0_12.length c0_12] 25 (0, 0)) (by (with_reducible repeat (first | refine blk_drewN ?_ _ | refine blk_drew ?_ | refine blk_alloc ?_ _)); exact BK233.out)) : gb233 ≠ gb234)); have n6_ := Aside0.mk ((by rw [hg]; exact Nat.ne_of_gt (blk_lt (g := gb233) (o := .cells #[.int .i64 a0_0, .int .u64 a0_1, .int .u64 a0_2, .int .u64 a0_3, .string a0_4, .string a0_5, .int .u64 a0_6, .int .u64 a0_7, .string a0_8, .int .u64 a0_9, .int .u64 a0_10, .string a0_11, .slice A0_12 l0_12.length c0_12] 25 (0, 0)) (by (with_reducible repeat (first | refine blk_drewN ?_ _ | refine blk_drew ?_ | refine blk_alloc ?_ _)); exact BK233.out)) : gb234 ≠ gb233)); clear BK233; clear HB; have BK233 := n0_; have HB := n1_; have BK234 := n2_; have GW234 := n3_; have GE234 := n4_; have NB233_234 := n5_; have NB234_233 := n6_; clear n0_ n1_ n2_ n3_ n4_ n5_ n6_; clear hb hbox hg))
  repeat (go_quiet (first | ((with_reducible refine gate_dst (N := 2) rfl ?_); (try (refine gate_guard (by rfl) ?_; dsimp only)); refine box_event ?hg (N := 2) ?hd (cs := #[.int .i64 a0_0, .int .u64 a0_1, .int .u64 a0_2, .int .u64 a0_3, .string a0_4, .string a0_5, .int .u64 a0_6, .int .u64 a0_7, .string a0_8, .int .u64 a0_9, .int .u64 a0_10, .string a0_11, .slice A0_12 l0_12.length c0_12]) (t := 25) ?hr ?_; (case hd => rfl); (case hg => rfl); (case hr => first | (go_simp; done) | (go_simp; rfl)); intro gb233 hg w4 hbox hb; have n0_ := Aside0.mk (below_step (by repeat (first | (with_reducible first | exact HB.out | apply below_alloc | apply pw_below_drewN | apply below_drew1) | exact HB.out)) hb); have n1_ := Aside0.mk (hbox); have n2_ := Aside0.mk ((by rw [hg]; exact (below_size (by repeat (first | (with_reducible first | exact HB.out | apply below_alloc | apply pw_below_drewN | apply below_drew1) | exact HB.out))) : w.heap.size ≤ gb233)); have n3_ := Aside0.mk ((by rw [hg]; exact (below_size (by repeat (first | (with_reducible first | exact HB.out | apply below_alloc | apply pw_below_drewN | apply below_drew1) | exact HB.out))) : w.heap.size ≤ gb233)); clear HB; have HB := n0_; have BK233 := n1_; have GW233 := n2_; have GE233 := n3_; clear n0_ n1_ n2_ n3_; clear hb hbox hg) | ((with_reducible refine gate_dst (N := 3) rfl ?_); (try (refine gate_guard (by rfl) ?_; dsimp only)); refine box_event ?hg (N := 3) ?hd (cs := #[.int .i64 a1_0, .int .u64 a1_1, .int .u64 a1_2, .int .u64 a1_3, .string a1_4, .string a1_5, .int .u64 a1_6, .int .u64 a1_7, .string a1_8, .int .u64 a1_9, .int .u64 a1_10, .string a1_11, .slice A1_12 l1_12.length c1_12]) (t := 25) ?hr ?_; (case hd => rfl); (case hg => rfl); (case hr => first | (go_simp; done) | (go_simp; rfl)); intro gb234 hg w5 hbox hb; have n0_ := Aside0.mk (blk_below (g := gb233) (o := .cells #[.int .i64 a0_0, .int .u64 a0_1, .int .u64 a0_2, .int .u64 a0_3, .string a0_4, .string a0_5, .int .u64 a0_6, .int .u64 a0_7, .string a0_8, .int .u64 a0_9, .int .u64 a0_10, .string a0_11, .slice A0_12 l0_12.length c0_12] 25 (0, 0)) (by (with_reducible repeat (first | refine blk_drewN ?_ _ | refine blk_drew ?_ | refine blk_alloc ?_ _)); exact BK233.out) hb); have n1_ := Aside0.mk (below_step (by repeat (first | (with_reducible first | exact HB.out | apply below_alloc | apply pw_below_drewN | apply below_drew1 | refine below_set ?_ GE233.out) | exact HB.out)) hb); have n2_ := Aside0.mk (hbox); have n3_ := Aside0.mk ((by rw [hg]; exact (below_size (by repeat (first | (with_reducible first | exact HB.out | apply below_alloc | apply pw_below_drewN | apply below_drew1 | refine below_set ?_ GE233.out) | exact HB.out))) : w.heap.size ≤ gb234)); have n4_ := Aside0.mk ((by rw [hg]; exact (below_size (by repeat (first | (with_reducible first | exact HB.out | apply below_alloc | apply pw_below_drewN | apply below_drew1 | refine below_set ?_ GE233.out) | exact HB.out))) : w.heap.size ≤ gb234)); have n5_ := Aside0.mk ((by rw [hg]; exact Nat.ne_of_lt (blk_lt (g := gb233) (o := .cells #[.int .i64 a0_0, .int .u64 a0_1, .int .u64 a0_2, .int .u64 a0_3, .string a0_4, .string a0_5, .int .u64 a0_6, .int .u64 a0_7, .string a0_8, .int .u64 a0_9, .int .u64 a0_10, .string a0_11, .slice A0_12 l0_12.length c0_12] 25 (0, 0)) (by (with_reducible repeat (first | refine blk_drewN ?_ _ | refine blk_drew ?_ | refine blk_alloc ?_ _)); exact BK233.out)) : gb233 ≠ gb234)); have n6_ := Aside0.mk ((by rw [hg]; exact Nat.ne_of_gt (blk_lt (g := gb233) (o := .cells #[.int .i64 a0_0, .int .u64 a0_1, .int .u64 a0_2, .int .u64 a0_3, .string a0_4, .string a0_5, .int .u64 a0_6, .int .u64 a0_7, .string a0_8, .int .u64 a0_9, .int .u64 a0_10, .string a0_11, .slice A0_12 l0_12.length c0_12] 25 (0, 0)) (by (with_reducible repeat (first | refine blk_drewN ?_ _ | refine blk_drew ?_ | refine blk_alloc ?_ _)); exact BK233.out)) : gb234 ≠ gb233)); clear BK233; clear HB; have BK233 := n0_; have HB := n1_; have BK234 := n2_; have GW234 := n3_; have GE234 := n4_; have NB233_234 := n5_; have NB234_233 := n6_; clear n0_ n1_ n2_ n3_ n4_ n5_ n6_; clear hb hbox hg)); go_upto_region 1 with (first | ((with_reducible refine gate_dst (N := 2) rfl ?_); (try (refine gate_guard (by rfl) ?_; dsimp only)); refine box_event ?hg (N := 2) ?hd (cs := #[.int .i64 a0_0, .int .u64 a0_1, .int .u64 a0_2, .int .u64 a0_3, .string a0_4, .string a0_5, .int .u64 a0_6, .int .u64 a0_7, .string a0_8, .int .u64 a0_9, .int .u64 a0_10, .string a0_11, .slice A0_12 l0_12.length c0_12]) (t := 25) ?hr ?_; (case hd => rfl); (case hg => rfl); (case hr => first | (go_simp; done) | (go_simp; rfl)); intro gb233 hg w4 hbox hb; have n0_ := Aside0.mk (below_step (by repeat (first | (with_reducible first | exact HB.out | apply below_alloc | apply pw_below_drewN | apply below_drew1) | exact HB.out)) hb); have n1_ := Aside0.mk (hbox); have n2_ := Aside0.mk ((by rw [hg]; exact (below_size (by repeat (first | (with_reducible first | exact HB.out | apply below_alloc | apply pw_below_drewN | apply below_drew1) | exact HB.out))) : w.heap.size ≤ gb233)); have n3_ := Aside0.mk ((by rw [hg]; exact (below_size (by repeat (first | (with_reducible first | exact HB.out | apply below_alloc | apply pw_below_drewN | apply below_drew1) | exact HB.out))) : w.heap.size ≤ gb233)); clear HB; have HB := n0_; have BK233 := n1_; have GW233 := n2_; have GE233 := n3_; clear n0_ n1_ n2_ n3_; clear hb hbox hg) | ((with_reducible refine gate_dst (N := 3) rfl ?_); (try (refine gate_guard (by rfl) ?_; dsimp only)); refine box_event ?hg (N := 3) ?hd (cs := #[.int .i64 a1_0, .int .u64 a1_1, .int .u64 a1_2, .int .u64 a1_3, .string a1_4, .string a1_5, .int .u64 a1_6, .int .u64 a1_7, .string a1_8, .int .u64 a1_9, .int .u64 a1_10, .string a1_11, .slice A1_12 l1_12.length c1_12]) (t := 25) ?hr ?_; (case hd => rfl); (case hg => rfl); (case hr => first | (go_simp; done) | (go_simp; rfl)); intro gb234 hg w5 hbox hb; have n0_ := Aside0.mk (blk_below (g := gb233) (o := .cells #[.int .i64 a0_0, .int .u64 a0_1, .int .u64 a0_2, .int .u64 a0_3, .string a0_4, .string a0_5, .int .u64 a0_6, .int .u64 a0_7, .string a0_8, .int .u64 a0_9, .int .u64 a0_10, .string a0_11, .slice A0_12 l0_12.length c0_12] 25 (0, 0)) (by (with_reducible repeat (first | refine blk_drewN ?_ _ | refine blk_drew ?_ | refine blk_alloc ?_ _)); exact BK233.out) hb); have n1_ := Aside0.mk (below_step (by repeat (first | (with_reducible first | exact HB.out | apply below_alloc | apply pw_below_drewN | apply below_drew1 | refine below_set ?_ GE233.out) | exact HB.out)) hb); have n2_ := Aside0.mk (hbox); have n3_ := Aside0.mk ((by rw [hg]; exact (below_size (by repeat (first | (with_reducible first | exact HB.out | apply below_alloc | apply pw_below_drewN | apply below_drew1 | refine below_set ?_ GE233.out) | exact HB.out))) : w.heap.size ≤ gb234)); have n4_ := Aside0.mk ((by rw [hg]; exact (below_size (by repeat (first | (with_reducible first | exact HB.out | apply below_alloc | apply pw_below_drewN | apply below_drew1 | refine below_set ?_ GE233.out) | exact HB.out))) : w.heap.size ≤ gb234)); have n5_ := Aside0.mk ((by rw [hg]; exact Nat.ne_of_lt (blk_lt (g := gb233) (o := .cells #[.int .i64 a0_0, .int .u64 a0_1, .int .u64 a0_2, .int .u64 a0_3, .string a0_4, .string a0_5, .int .u64 a0_6, .int .u64 a0_7, .string a0_8, .int .u64 a0_9, .int .u64 a0_10, .string a0_11, .slice A0_12 l0_12.length c0_12] 25 (0, 0)) (by (with_reducible repeat (first | refine blk_drewN ?_ _ | refine blk_drew ?_ | refine blk_alloc ?_ _)); exact BK233.out)) : gb233 ≠ gb234)); have n6_ := Aside0.mk ((by rw [hg]; exact Nat.ne_of_gt (blk_lt (g := gb233) (o := .cells #[.int .i64 a0_0, .int .u64 a0_1, .int .u64 a0_2, .int .u64 a0_3, .string a0_4, .string a0_5, .int .u64 a0_6, .int .u64 a0_7, .string a0_8, .int .u64 a0_9, .int .u64 a0_10, .string a0_11, .slice A0_12 l0_12.length c0_12] 25 (0, 0)) (by (with_reducible repeat (first | refine blk_drewN ?_ _ | refine blk_drew ?_ | refine blk_alloc ?_ _)); exact BK233.out)) : gb234 ≠ gb233)); clear BK233; clear HB; have BK233 := n0_; have HB := n1_; have BK234 := n2_; have GW234 := n3_; have GE234 := n4_; have NB233_234 := n5_; have NB234_233 := n6_; clear n0_ n1_ n2_ n3_ n4_ n5_ n6_; clear hb hbox hg)))
  (try simp only [Act.put, List.setIfInBounds_toArray, List.set_cons_zero, List.set_cons_succ])
  go_cut [45] (fun v45 wc => ∃ (kq : Nat) (x45_2 : Bool), v45 = .bool x45_2 ∧ Aside0 (demurralref08_Same.j0 kq x45_2 a0_0 a0_1 a0_2 a0_3 a0_4 a0_5 a0_6 a0_7 a0_8 a0_9 a0_10 a0_11 l0_12 a1_0 a1_1 a1_2 a1_3 a1_4 a1_5 a1_6 a1_7 a1_8 a1_9 a1_10 a1_11 l1_12 = some r) ∧ Aside0 (kq ≤ k) ∧ Aside0 (wc.heap[gb233]? = some (.cells #[.int .i64 a0_0, .int .u64 a0_1, .int .u64 a0_2, .int .u64 a0_3, .string a0_4, .string a0_5, .int .u64 a0_6, .int .u64 a0_7, .string a0_8, .int .u64 a0_9, .int .u64 a0_10, .string a0_11, (.slice A0_12 l0_12.length c0_12)] 25 (0, 0))) ∧ Aside0 (wc.heap[gb234]? = some (.cells #[.int .i64 a1_0, .int .u64 a1_1, .int .u64 a1_2, .int .u64 a1_3, .string a1_4, .string a1_5, .int .u64 a1_6, .int .u64 a1_7, .string a1_8, .int .u64 a1_9, .int .u64 a1_10, .string a1_11, (.slice A1_12 l1_12.length c1_12)] 25 (0, 0))) ∧ Aside0 (Below w.heap.size w wc))
  case first =>
    have H := HC3.out
    clear HC3
    by_cases c6 : a0_0 = a1_0
    · rw [if_pos c6] at H
      have c6b0 : (a0_0 == a1_0) = true := beq_iff_eq.mpr c6
      have c6b1 : (a0_0 != a1_0) = false := bne_eq_false_iff_eq.mpr c6
      clear c6
      (first | rw [c6b0] | (simp only [i64_w, i32_w]; rw [c6b0]) | skip)
      by_cases c7 : a0_1 = a1_1
      · rw [if_pos c7] at H
        have c7b0 : (a0_1 == a1_1) = true := beq_iff_eq.mpr c7
        have c7b1 : (a0_1 != a1_1) = false := bne_eq_false_iff_eq.mpr c7
        clear c7
        by_cases c8 : a0_2 = a1_2
        · rw [if_pos c8] at H
          have c8b0 : (a0_2 == a1_2) = true := beq_iff_eq.mpr c8
          have c8b1 : (a0_2 != a1_2) = false := bne_eq_false_iff_eq.mpr c8
          clear c8
          by_cases c9 : a0_3 = a1_3
          · rw [if_pos c9] at H
            have c9b0 : (a0_3 == a1_3) = true := beq_iff_eq.mpr c9
            have c9b1 : (a0_3 != a1_3) = false := bne_eq_false_iff_eq.mpr c9
            clear c9
            by_cases c10 : a0_4.toList = a1_4.toList
            · rw [if_pos c10] at H
              have c10b0 : (a0_4.toList == a1_4.toList) = true := beq_iff_eq.mpr c10
              have c10b1 : (a0_4.toList != a1_4.toList) = false := bne_eq_false_iff_eq.mpr c10
              clear c10
              have H' := Aside0.mk H
              clear H
              have hnb11 := NB233_234.out
              have hnc11 := NB234_233.out
              have hcz12_0 : w5.cell? ⟨gb233, 0, none⟩ = some (.int .i64 a0_0) := (blk_cell BK233.out 0).trans rfl
              have hcz12_1 : w5.cell? ⟨gb233, 1, none⟩ = some (.int .u64 a0_1) := (blk_cell BK233.out 1).trans rfl
              have hcz12_2 : w5.cell? ⟨gb233, 2, none⟩ = some (.int .u64 a0_2) := (blk_cell BK233.out 2).trans rfl
              have hcz12_3 : w5.cell? ⟨gb233, 3, none⟩ = some (.int .u64 a0_3) := (blk_cell BK233.out 3).trans rfl
              have hcz12_4 : w5.cell? ⟨gb233, 4, none⟩ = some (.string a0_4) := (blk_cell BK233.out 4).trans rfl
              have hcz12_5 : w5.cell? ⟨gb233, 5, none⟩ = some (.string a0_5) := (blk_cell BK233.out 5).trans rfl
              have hcz12_6 : w5.cell? ⟨gb233, 6, none⟩ = some (.int .u64 a0_6) := (blk_cell BK233.out 6).trans rfl
              have hcz12_7 : w5.cell? ⟨gb233, 7, none⟩ = some (.int .u64 a0_7) := (blk_cell BK233.out 7).trans rfl
              have hcz12_8 : w5.cell? ⟨gb233, 8, none⟩ = some (.string a0_8) := (blk_cell BK233.out 8).trans rfl
              have hcz12_9 : w5.cell? ⟨gb233, 9, none⟩ = some (.int .u64 a0_9) := (blk_cell BK233.out 9).trans rfl
              have hcz12_10 : w5.cell? ⟨gb233, 10, none⟩ = some (.int .u64 a0_10) := (blk_cell BK233.out 10).trans rfl
              have hcz12_11 : w5.cell? ⟨gb233, 11, none⟩ = some (.string a0_11) := (blk_cell BK233.out 11).trans rfl
              have hcz12_12 : w5.cell? ⟨gb233, 12, none⟩ = some (.slice A0_12 l0_12.length c0_12) := (blk_cell BK233.out 12).trans rfl
              have hfz12_0 := blk_frozen BK233.out 0
              have hfz12_1 := blk_frozen BK233.out 1
              have hfz12_2 := blk_frozen BK233.out 2
              have hfz12_3 := blk_frozen BK233.out 3
              have hfz12_4 := blk_frozen BK233.out 4
              have hfz12_5 := blk_frozen BK233.out 5
              have hfz12_6 := blk_frozen BK233.out 6
              have hfz12_7 := blk_frozen BK233.out 7
              have hfz12_8 := blk_frozen BK233.out 8
              have hfz12_9 := blk_frozen BK233.out 9
              have hfz12_10 := blk_frozen BK233.out 10
              have hfz12_11 := blk_frozen BK233.out 11
              have hfz12_12 := blk_frozen BK233.out 12
              have hcz13_0 : w5.cell? ⟨gb234, 0, none⟩ = some (.int .i64 a1_0) := (blk_cell BK234.out 0).trans rfl
              have hcz13_1 : w5.cell? ⟨gb234, 1, none⟩ = some (.int .u64 a1_1) := (blk_cell BK234.out 1).trans rfl
              have hcz13_2 : w5.cell? ⟨gb234, 2, none⟩ = some (.int .u64 a1_2) := (blk_cell BK234.out 2).trans rfl
              have hcz13_3 : w5.cell? ⟨gb234, 3, none⟩ = some (.int .u64 a1_3) := (blk_cell BK234.out 3).trans rfl
              have hcz13_4 : w5.cell? ⟨gb234, 4, none⟩ = some (.string a1_4) := (blk_cell BK234.out 4).trans rfl
              have hcz13_5 : w5.cell? ⟨gb234, 5, none⟩ = some (.string a1_5) := (blk_cell BK234.out 5).trans rfl
              have hcz13_6 : w5.cell? ⟨gb234, 6, none⟩ = some (.int .u64 a1_6) := (blk_cell BK234.out 6).trans rfl
              have hcz13_7 : w5.cell? ⟨gb234, 7, none⟩ = some (.int .u64 a1_7) := (blk_cell BK234.out 7).trans rfl
              have hcz13_8 : w5.cell? ⟨gb234, 8, none⟩ = some (.string a1_8) := (blk_cell BK234.out 8).trans rfl
              have hcz13_9 : w5.cell? ⟨gb234, 9, none⟩ = some (.int .u64 a1_9) := (blk_cell BK234.out 9).trans rfl
              have hcz13_10 : w5.cell? ⟨gb234, 10, none⟩ = some (.int .u64 a1_10) := (blk_cell BK234.out 10).trans rfl
              have hcz13_11 : w5.cell? ⟨gb234, 11, none⟩ = some (.string a1_11) := (blk_cell BK234.out 11).trans rfl
              have hcz13_12 : w5.cell? ⟨gb234, 12, none⟩ = some (.slice A1_12 l1_12.length c1_12) := (blk_cell BK234.out 12).trans rfl
              have hfz13_0 := blk_frozen BK234.out 0
              have hfz13_1 := blk_frozen BK234.out 1
              have hfz13_2 := blk_frozen BK234.out 2
              have hfz13_3 := blk_frozen BK234.out 3
              have hfz13_4 := blk_frozen BK234.out 4
              have hfz13_5 := blk_frozen BK234.out 5
              have hfz13_6 := blk_frozen BK234.out 6
              have hfz13_7 := blk_frozen BK234.out 7
              have hfz13_8 := blk_frozen BK234.out 8
              have hfz13_9 := blk_frozen BK234.out 9
              have hfz13_10 := blk_frozen BK234.out 10
              have hfz13_11 := blk_frozen BK234.out 11
              have hfz13_12 := blk_frozen BK234.out 12
              go_wp2
              repeat (go_quiet (fail); try go_wp2)
              go_meet
              case rel => exact ⟨_, ((a0_5.toList != a1_5.toList)), (by first | rfl | (simp; done) | (simp [*]; done)), H', ⟨by first | omega | exact Nat.le_refl _⟩, ⟨by (with_reducible repeat (first | refine blk_drewN ?_ _ | refine blk_drew ?_ | refine blk_alloc ?_ _)); exact BK233.out⟩, ⟨by (with_reducible repeat (first | refine blk_drewN ?_ _ | refine blk_drew ?_ | refine blk_alloc ?_ _)); exact BK234.out⟩, ⟨by repeat (first | (with_reducible first | exact HB.out | apply below_alloc | apply pw_below_drewN | apply below_drew1 | refine below_set ?_ GE233.out | refine below_set ?_ GE234.out) | exact HB.out)⟩⟩
            · rw [if_neg c10] at H
              have c10b0 : (a0_4.toList == a1_4.toList) = false := beq_eq_false_iff_ne.mpr c10
              have c10b1 : (a0_4.toList != a1_4.toList) = true := bne_iff_ne.mpr c10
              have H' := Aside0.mk H
              clear H
              have hnb14 := NB233_234.out
              have hnc14 := NB234_233.out
              have hcz15_0 : w5.cell? ⟨gb233, 0, none⟩ = some (.int .i64 a0_0) := (blk_cell BK233.out 0).trans rfl
              have hcz15_1 : w5.cell? ⟨gb233, 1, none⟩ = some (.int .u64 a0_1) := (blk_cell BK233.out 1).trans rfl
              have hcz15_2 : w5.cell? ⟨gb233, 2, none⟩ = some (.int .u64 a0_2) := (blk_cell BK233.out 2).trans rfl
              have hcz15_3 : w5.cell? ⟨gb233, 3, none⟩ = some (.int .u64 a0_3) := (blk_cell BK233.out 3).trans rfl
              have hcz15_4 : w5.cell? ⟨gb233, 4, none⟩ = some (.string a0_4) := (blk_cell BK233.out 4).trans rfl
              have hcz15_5 : w5.cell? ⟨gb233, 5, none⟩ = some (.string a0_5) := (blk_cell BK233.out 5).trans rfl
              have hcz15_6 : w5.cell? ⟨gb233, 6, none⟩ = some (.int .u64 a0_6) := (blk_cell BK233.out 6).trans rfl
              have hcz15_7 : w5.cell? ⟨gb233, 7, none⟩ = some (.int .u64 a0_7) := (blk_cell BK233.out 7).trans rfl
              have hcz15_8 : w5.cell? ⟨gb233, 8, none⟩ = some (.string a0_8) := (blk_cell BK233.out 8).trans rfl
              have hcz15_9 : w5.cell? ⟨gb233, 9, none⟩ = some (.int .u64 a0_9) := (blk_cell BK233.out 9).trans rfl
              have hcz15_10 : w5.cell? ⟨gb233, 10, none⟩ = some (.int .u64 a0_10) := (blk_cell BK233.out 10).trans rfl
              have hcz15_11 : w5.cell? ⟨gb233, 11, none⟩ = some (.string a0_11) := (blk_cell BK233.out 11).trans rfl
              have hcz15_12 : w5.cell? ⟨gb233, 12, none⟩ = some (.slice A0_12 l0_12.length c0_12) := (blk_cell BK233.out 12).trans rfl
              have hfz15_0 := blk_frozen BK233.out 0
              have hfz15_1 := blk_frozen BK233.out 1
              have hfz15_2 := blk_frozen BK233.out 2
              have hfz15_3 := blk_frozen BK233.out 3
              have hfz15_4 := blk_frozen BK233.out 4
              have hfz15_5 := blk_frozen BK233.out 5
              have hfz15_6 := blk_frozen BK233.out 6
              have hfz15_7 := blk_frozen BK233.out 7
              have hfz15_8 := blk_frozen BK233.out 8
              have hfz15_9 := blk_frozen BK233.out 9
              have hfz15_10 := blk_frozen BK233.out 10
              have hfz15_11 := blk_frozen BK233.out 11
              have hfz15_12 := blk_frozen BK233.out 12
              have hcz16_0 : w5.cell? ⟨gb234, 0, none⟩ = some (.int .i64 a1_0) := (blk_cell BK234.out 0).trans rfl
              have hcz16_1 : w5.cell? ⟨gb234, 1, none⟩ = some (.int .u64 a1_1) := (blk_cell BK234.out 1).trans rfl
              have hcz16_2 : w5.cell? ⟨gb234, 2, none⟩ = some (.int .u64 a1_2) := (blk_cell BK234.out 2).trans rfl
              have hcz16_3 : w5.cell? ⟨gb234, 3, none⟩ = some (.int .u64 a1_3) := (blk_cell BK234.out 3).trans rfl
              have hcz16_4 : w5.cell? ⟨gb234, 4, none⟩ = some (.string a1_4) := (blk_cell BK234.out 4).trans rfl
              have hcz16_5 : w5.cell? ⟨gb234, 5, none⟩ = some (.string a1_5) := (blk_cell BK234.out 5).trans rfl
              have hcz16_6 : w5.cell? ⟨gb234, 6, none⟩ = some (.int .u64 a1_6) := (blk_cell BK234.out 6).trans rfl
              have hcz16_7 : w5.cell? ⟨gb234, 7, none⟩ = some (.int .u64 a1_7) := (blk_cell BK234.out 7).trans rfl
              have hcz16_8 : w5.cell? ⟨gb234, 8, none⟩ = some (.string a1_8) := (blk_cell BK234.out 8).trans rfl
              have hcz16_9 : w5.cell? ⟨gb234, 9, none⟩ = some (.int .u64 a1_9) := (blk_cell BK234.out 9).trans rfl
              have hcz16_10 : w5.cell? ⟨gb234, 10, none⟩ = some (.int .u64 a1_10) := (blk_cell BK234.out 10).trans rfl
              have hcz16_11 : w5.cell? ⟨gb234, 11, none⟩ = some (.string a1_11) := (blk_cell BK234.out 11).trans rfl
              have hcz16_12 : w5.cell? ⟨gb234, 12, none⟩ = some (.slice A1_12 l1_12.length c1_12) := (blk_cell BK234.out 12).trans rfl
              have hfz16_0 := blk_frozen BK234.out 0
              have hfz16_1 := blk_frozen BK234.out 1
              have hfz16_2 := blk_frozen BK234.out 2
              have hfz16_3 := blk_frozen BK234.out 3
              have hfz16_4 := blk_frozen BK234.out 4
              have hfz16_5 := blk_frozen BK234.out 5
              have hfz16_6 := blk_frozen BK234.out 6
              have hfz16_7 := blk_frozen BK234.out 7
              have hfz16_8 := blk_frozen BK234.out 8
              have hfz16_9 := blk_frozen BK234.out 9
              have hfz16_10 := blk_frozen BK234.out 10
              have hfz16_11 := blk_frozen BK234.out 11
              have hfz16_12 := blk_frozen BK234.out 12
              go_wp2
              repeat (go_quiet (fail); try go_wp2)
              go_meet
              case rel => exact ⟨_, (true), (by first | rfl | (simp; done) | (simp [*]; done)), H', ⟨by first | omega | exact Nat.le_refl _⟩, ⟨by (with_reducible repeat (first | refine blk_drewN ?_ _ | refine blk_drew ?_ | refine blk_alloc ?_ _)); exact BK233.out⟩, ⟨by (with_reducible repeat (first | refine blk_drewN ?_ _ | refine blk_drew ?_ | refine blk_alloc ?_ _)); exact BK234.out⟩, ⟨by repeat (first | (with_reducible first | exact HB.out | apply below_alloc | apply pw_below_drewN | apply below_drew1 | refine below_set ?_ GE233.out | refine below_set ?_ GE234.out) | exact HB.out)⟩⟩
          · rw [if_neg c9] at H
            have c9b0 : (a0_3 == a1_3) = false := beq_eq_false_iff_ne.mpr c9
            have c9b1 : (a0_3 != a1_3) = true := bne_iff_ne.mpr c9
            have H' := Aside0.mk H
            clear H
            have hnb17 := NB233_234.out
            have hnc17 := NB234_233.out
            have hcz18_0 : w5.cell? ⟨gb233, 0, none⟩ = some (.int .i64 a0_0) := (blk_cell BK233.out 0).trans rfl
            have hcz18_1 : w5.cell? ⟨gb233, 1, none⟩ = some (.int .u64 a0_1) := (blk_cell BK233.out 1).trans rfl
            have hcz18_2 : w5.cell? ⟨gb233, 2, none⟩ = some (.int .u64 a0_2) := (blk_cell BK233.out 2).trans rfl
            have hcz18_3 : w5.cell? ⟨gb233, 3, none⟩ = some (.int .u64 a0_3) := (blk_cell BK233.out 3).trans rfl
            have hcz18_4 : w5.cell? ⟨gb233, 4, none⟩ = some (.string a0_4) := (blk_cell BK233.out 4).trans rfl
            have hcz18_5 : w5.cell? ⟨gb233, 5, none⟩ = some (.string a0_5) := (blk_cell BK233.out 5).trans rfl
            have hcz18_6 : w5.cell? ⟨gb233, 6, none⟩ = some (.int .u64 a0_6) := (blk_cell BK233.out 6).trans rfl
            have hcz18_7 : w5.cell? ⟨gb233, 7, none⟩ = some (.int .u64 a0_7) := (blk_cell BK233.out 7).trans rfl
            have hcz18_8 : w5.cell? ⟨gb233, 8, none⟩ = some (.string a0_8) := (blk_cell BK233.out 8).trans rfl
            have hcz18_9 : w5.cell? ⟨gb233, 9, none⟩ = some (.int .u64 a0_9) := (blk_cell BK233.out 9).trans rfl
            have hcz18_10 : w5.cell? ⟨gb233, 10, none⟩ = some (.int .u64 a0_10) := (blk_cell BK233.out 10).trans rfl
            have hcz18_11 : w5.cell? ⟨gb233, 11, none⟩ = some (.string a0_11) := (blk_cell BK233.out 11).trans rfl
            have hcz18_12 : w5.cell? ⟨gb233, 12, none⟩ = some (.slice A0_12 l0_12.length c0_12) := (blk_cell BK233.out 12).trans rfl
            have hfz18_0 := blk_frozen BK233.out 0
            have hfz18_1 := blk_frozen BK233.out 1
            have hfz18_2 := blk_frozen BK233.out 2
            have hfz18_3 := blk_frozen BK233.out 3
            have hfz18_4 := blk_frozen BK233.out 4
            have hfz18_5 := blk_frozen BK233.out 5
            have hfz18_6 := blk_frozen BK233.out 6
            have hfz18_7 := blk_frozen BK233.out 7
            have hfz18_8 := blk_frozen BK233.out 8
            have hfz18_9 := blk_frozen BK233.out 9
            have hfz18_10 := blk_frozen BK233.out 10
            have hfz18_11 := blk_frozen BK233.out 11
            have hfz18_12 := blk_frozen BK233.out 12
            have hcz19_0 : w5.cell? ⟨gb234, 0, none⟩ = some (.int .i64 a1_0) := (blk_cell BK234.out 0).trans rfl
            have hcz19_1 : w5.cell? ⟨gb234, 1, none⟩ = some (.int .u64 a1_1) := (blk_cell BK234.out 1).trans rfl
            have hcz19_2 : w5.cell? ⟨gb234, 2, none⟩ = some (.int .u64 a1_2) := (blk_cell BK234.out 2).trans rfl
            have hcz19_3 : w5.cell? ⟨gb234, 3, none⟩ = some (.int .u64 a1_3) := (blk_cell BK234.out 3).trans rfl
            have hcz19_4 : w5.cell? ⟨gb234, 4, none⟩ = some (.string a1_4) := (blk_cell BK234.out 4).trans rfl
            have hcz19_5 : w5.cell? ⟨gb234, 5, none⟩ = some (.string a1_5) := (blk_cell BK234.out 5).trans rfl
            have hcz19_6 : w5.cell? ⟨gb234, 6, none⟩ = some (.int .u64 a1_6) := (blk_cell BK234.out 6).trans rfl
            have hcz19_7 : w5.cell? ⟨gb234, 7, none⟩ = some (.int .u64 a1_7) := (blk_cell BK234.out 7).trans rfl
            have hcz19_8 : w5.cell? ⟨gb234, 8, none⟩ = some (.string a1_8) := (blk_cell BK234.out 8).trans rfl
            have hcz19_9 : w5.cell? ⟨gb234, 9, none⟩ = some (.int .u64 a1_9) := (blk_cell BK234.out 9).trans rfl
            have hcz19_10 : w5.cell? ⟨gb234, 10, none⟩ = some (.int .u64 a1_10) := (blk_cell BK234.out 10).trans rfl
            have hcz19_11 : w5.cell? ⟨gb234, 11, none⟩ = some (.string a1_11) := (blk_cell BK234.out 11).trans rfl
            have hcz19_12 : w5.cell? ⟨gb234, 12, none⟩ = some (.slice A1_12 l1_12.length c1_12) := (blk_cell BK234.out 12).trans rfl
            have hfz19_0 := blk_frozen BK234.out 0
            have hfz19_1 := blk_frozen BK234.out 1
            have hfz19_2 := blk_frozen BK234.out 2
            have hfz19_3 := blk_frozen BK234.out 3
            have hfz19_4 := blk_frozen BK234.out 4
            have hfz19_5 := blk_frozen BK234.out 5
            have hfz19_6 := blk_frozen BK234.out 6
            have hfz19_7 := blk_frozen BK234.out 7
            have hfz19_8 := blk_frozen BK234.out 8
            have hfz19_9 := blk_frozen BK234.out 9
            have hfz19_10 := blk_frozen BK234.out 10
            have hfz19_11 := blk_frozen BK234.out 11
            have hfz19_12 := blk_frozen BK234.out 12
            go_wp2
            repeat (go_quiet (fail); try go_wp2)
            go_meet
            case rel => exact ⟨_, (true), (by first | rfl | (simp; done) | (simp [*]; done)), H', ⟨by first | omega | exact Nat.le_refl _⟩, ⟨by (with_reducible repeat (first | refine blk_drewN ?_ _ | refine blk_drew ?_ | refine blk_alloc ?_ _)); exact BK233.out⟩, ⟨by (with_reducible repeat (first | refine blk_drewN ?_ _ | refine blk_drew ?_ | refine blk_alloc ?_ _)); exact BK234.out⟩, ⟨by repeat (first | (with_reducible first | exact HB.out | apply below_alloc | apply pw_below_drewN | apply below_drew1 | refine below_set ?_ GE233.out | refine below_set ?_ GE234.out) | exact HB.out)⟩⟩
        · rw [if_neg c8] at H
          have c8b0 : (a0_2 == a1_2) = false := beq_eq_false_iff_ne.mpr c8
          have c8b1 : (a0_2 != a1_2) = true := bne_iff_ne.mpr c8
          have H' := Aside0.mk H
          clear H
          have hnb20 := NB233_234.out
          have hnc20 := NB234_233.out
          have hcz21_0 : w5.cell? ⟨gb233, 0, none⟩ = some (.int .i64 a0_0) := (blk_cell BK233.out 0).trans rfl
          have hcz21_1 : w5.cell? ⟨gb233, 1, none⟩ = some (.int .u64 a0_1) := (blk_cell BK233.out 1).trans rfl
          have hcz21_2 : w5.cell? ⟨gb233, 2, none⟩ = some (.int .u64 a0_2) := (blk_cell BK233.out 2).trans rfl
          have hcz21_3 : w5.cell? ⟨gb233, 3, none⟩ = some (.int .u64 a0_3) := (blk_cell BK233.out 3).trans rfl
          have hcz21_4 : w5.cell? ⟨gb233, 4, none⟩ = some (.string a0_4) := (blk_cell BK233.out 4).trans rfl
          have hcz21_5 : w5.cell? ⟨gb233, 5, none⟩ = some (.string a0_5) := (blk_cell BK233.out 5).trans rfl
          have hcz21_6 : w5.cell? ⟨gb233, 6, none⟩ = some (.int .u64 a0_6) := (blk_cell BK233.out 6).trans rfl
          have hcz21_7 : w5.cell? ⟨gb233, 7, none⟩ = some (.int .u64 a0_7) := (blk_cell BK233.out 7).trans rfl
          have hcz21_8 : w5.cell? ⟨gb233, 8, none⟩ = some (.string a0_8) := (blk_cell BK233.out 8).trans rfl
          have hcz21_9 : w5.cell? ⟨gb233, 9, none⟩ = some (.int .u64 a0_9) := (blk_cell BK233.out 9).trans rfl
          have hcz21_10 : w5.cell? ⟨gb233, 10, none⟩ = some (.int .u64 a0_10) := (blk_cell BK233.out 10).trans rfl
          have hcz21_11 : w5.cell? ⟨gb233, 11, none⟩ = some (.string a0_11) := (blk_cell BK233.out 11).trans rfl
          have hcz21_12 : w5.cell? ⟨gb233, 12, none⟩ = some (.slice A0_12 l0_12.length c0_12) := (blk_cell BK233.out 12).trans rfl
          have hfz21_0 := blk_frozen BK233.out 0
          have hfz21_1 := blk_frozen BK233.out 1
          have hfz21_2 := blk_frozen BK233.out 2
          have hfz21_3 := blk_frozen BK233.out 3
          have hfz21_4 := blk_frozen BK233.out 4
          have hfz21_5 := blk_frozen BK233.out 5
          have hfz21_6 := blk_frozen BK233.out 6
          have hfz21_7 := blk_frozen BK233.out 7
          have hfz21_8 := blk_frozen BK233.out 8
          have hfz21_9 := blk_frozen BK233.out 9
          have hfz21_10 := blk_frozen BK233.out 10
          have hfz21_11 := blk_frozen BK233.out 11
          have hfz21_12 := blk_frozen BK233.out 12
          have hcz22_0 : w5.cell? ⟨gb234, 0, none⟩ = some (.int .i64 a1_0) := (blk_cell BK234.out 0).trans rfl
          have hcz22_1 : w5.cell? ⟨gb234, 1, none⟩ = some (.int .u64 a1_1) := (blk_cell BK234.out 1).trans rfl
          have hcz22_2 : w5.cell? ⟨gb234, 2, none⟩ = some (.int .u64 a1_2) := (blk_cell BK234.out 2).trans rfl
          have hcz22_3 : w5.cell? ⟨gb234, 3, none⟩ = some (.int .u64 a1_3) := (blk_cell BK234.out 3).trans rfl
          have hcz22_4 : w5.cell? ⟨gb234, 4, none⟩ = some (.string a1_4) := (blk_cell BK234.out 4).trans rfl
          have hcz22_5 : w5.cell? ⟨gb234, 5, none⟩ = some (.string a1_5) := (blk_cell BK234.out 5).trans rfl
          have hcz22_6 : w5.cell? ⟨gb234, 6, none⟩ = some (.int .u64 a1_6) := (blk_cell BK234.out 6).trans rfl
          have hcz22_7 : w5.cell? ⟨gb234, 7, none⟩ = some (.int .u64 a1_7) := (blk_cell BK234.out 7).trans rfl
          have hcz22_8 : w5.cell? ⟨gb234, 8, none⟩ = some (.string a1_8) := (blk_cell BK234.out 8).trans rfl
          have hcz22_9 : w5.cell? ⟨gb234, 9, none⟩ = some (.int .u64 a1_9) := (blk_cell BK234.out 9).trans rfl
          have hcz22_10 : w5.cell? ⟨gb234, 10, none⟩ = some (.int .u64 a1_10) := (blk_cell BK234.out 10).trans rfl
          have hcz22_11 : w5.cell? ⟨gb234, 11, none⟩ = some (.string a1_11) := (blk_cell BK234.out 11).trans rfl
          have hcz22_12 : w5.cell? ⟨gb234, 12, none⟩ = some (.slice A1_12 l1_12.length c1_12) := (blk_cell BK234.out 12).trans rfl
          have hfz22_0 := blk_frozen BK234.out 0
          have hfz22_1 := blk_frozen BK234.out 1
          have hfz22_2 := blk_frozen BK234.out 2
          have hfz22_3 := blk_frozen BK234.out 3
          have hfz22_4 := blk_frozen BK234.out 4
          have hfz22_5 := blk_frozen BK234.out 5
          have hfz22_6 := blk_frozen BK234.out 6
          have hfz22_7 := blk_frozen BK234.out 7
          have hfz22_8 := blk_frozen BK234.out 8
          have hfz22_9 := blk_frozen BK234.out 9
          have hfz22_10 := blk_frozen BK234.out 10
          have hfz22_11 := blk_frozen BK234.out 11
          have hfz22_12 := blk_frozen BK234.out 12
          go_wp2
          repeat (go_quiet (fail); try go_wp2)
          go_meet
          case rel => exact ⟨_, (true), (by first | rfl | (simp; done) | (simp [*]; done)), H', ⟨by first | omega | exact Nat.le_refl _⟩, ⟨by (with_reducible repeat (first | refine blk_drewN ?_ _ | refine blk_drew ?_ | refine blk_alloc ?_ _)); exact BK233.out⟩, ⟨by (with_reducible repeat (first | refine blk_drewN ?_ _ | refine blk_drew ?_ | refine blk_alloc ?_ _)); exact BK234.out⟩, ⟨by repeat (first | (with_reducible first | exact HB.out | apply below_alloc | apply pw_below_drewN | apply below_drew1 | refine below_set ?_ GE233.out | refine below_set ?_ GE234.out) | exact HB.out)⟩⟩
      · rw [if_neg c7] at H
        have c7b0 : (a0_1 == a1_1) = false := beq_eq_false_iff_ne.mpr c7
        have c7b1 : (a0_1 != a1_1) = true := bne_iff_ne.mpr c7
        have H' := Aside0.mk H
        clear H
        have hnb23 := NB233_234.out
        have hnc23 := NB234_233.out
        have hcz24_0 : w5.cell? ⟨gb233, 0, none⟩ = some (.int .i64 a0_0) := (blk_cell BK233.out 0).trans rfl
        have hcz24_1 : w5.cell? ⟨gb233, 1, none⟩ = some (.int .u64 a0_1) := (blk_cell BK233.out 1).trans rfl
        have hcz24_2 : w5.cell? ⟨gb233, 2, none⟩ = some (.int .u64 a0_2) := (blk_cell BK233.out 2).trans rfl
        have hcz24_3 : w5.cell? ⟨gb233, 3, none⟩ = some (.int .u64 a0_3) := (blk_cell BK233.out 3).trans rfl
        have hcz24_4 : w5.cell? ⟨gb233, 4, none⟩ = some (.string a0_4) := (blk_cell BK233.out 4).trans rfl
        have hcz24_5 : w5.cell? ⟨gb233, 5, none⟩ = some (.string a0_5) := (blk_cell BK233.out 5).trans rfl
        have hcz24_6 : w5.cell? ⟨gb233, 6, none⟩ = some (.int .u64 a0_6) := (blk_cell BK233.out 6).trans rfl
        have hcz24_7 : w5.cell? ⟨gb233, 7, none⟩ = some (.int .u64 a0_7) := (blk_cell BK233.out 7).trans rfl
        have hcz24_8 : w5.cell? ⟨gb233, 8, none⟩ = some (.string a0_8) := (blk_cell BK233.out 8).trans rfl
        have hcz24_9 : w5.cell? ⟨gb233, 9, none⟩ = some (.int .u64 a0_9) := (blk_cell BK233.out 9).trans rfl
        have hcz24_10 : w5.cell? ⟨gb233, 10, none⟩ = some (.int .u64 a0_10) := (blk_cell BK233.out 10).trans rfl
        have hcz24_11 : w5.cell? ⟨gb233, 11, none⟩ = some (.string a0_11) := (blk_cell BK233.out 11).trans rfl
        have hcz24_12 : w5.cell? ⟨gb233, 12, none⟩ = some (.slice A0_12 l0_12.length c0_12) := (blk_cell BK233.out 12).trans rfl
        have hfz24_0 := blk_frozen BK233.out 0
        have hfz24_1 := blk_frozen BK233.out 1
        have hfz24_2 := blk_frozen BK233.out 2
        have hfz24_3 := blk_frozen BK233.out 3
        have hfz24_4 := blk_frozen BK233.out 4
        have hfz24_5 := blk_frozen BK233.out 5
        have hfz24_6 := blk_frozen BK233.out 6
        have hfz24_7 := blk_frozen BK233.out 7
        have hfz24_8 := blk_frozen BK233.out 8
        have hfz24_9 := blk_frozen BK233.out 9
        have hfz24_10 := blk_frozen BK233.out 10
        have hfz24_11 := blk_frozen BK233.out 11
        have hfz24_12 := blk_frozen BK233.out 12
        have hcz25_0 : w5.cell? ⟨gb234, 0, none⟩ = some (.int .i64 a1_0) := (blk_cell BK234.out 0).trans rfl
        have hcz25_1 : w5.cell? ⟨gb234, 1, none⟩ = some (.int .u64 a1_1) := (blk_cell BK234.out 1).trans rfl
        have hcz25_2 : w5.cell? ⟨gb234, 2, none⟩ = some (.int .u64 a1_2) := (blk_cell BK234.out 2).trans rfl
        have hcz25_3 : w5.cell? ⟨gb234, 3, none⟩ = some (.int .u64 a1_3) := (blk_cell BK234.out 3).trans rfl
        have hcz25_4 : w5.cell? ⟨gb234, 4, none⟩ = some (.string a1_4) := (blk_cell BK234.out 4).trans rfl
        have hcz25_5 : w5.cell? ⟨gb234, 5, none⟩ = some (.string a1_5) := (blk_cell BK234.out 5).trans rfl
        have hcz25_6 : w5.cell? ⟨gb234, 6, none⟩ = some (.int .u64 a1_6) := (blk_cell BK234.out 6).trans rfl
        have hcz25_7 : w5.cell? ⟨gb234, 7, none⟩ = some (.int .u64 a1_7) := (blk_cell BK234.out 7).trans rfl
        have hcz25_8 : w5.cell? ⟨gb234, 8, none⟩ = some (.string a1_8) := (blk_cell BK234.out 8).trans rfl
        have hcz25_9 : w5.cell? ⟨gb234, 9, none⟩ = some (.int .u64 a1_9) := (blk_cell BK234.out 9).trans rfl
        have hcz25_10 : w5.cell? ⟨gb234, 10, none⟩ = some (.int .u64 a1_10) := (blk_cell BK234.out 10).trans rfl
        have hcz25_11 : w5.cell? ⟨gb234, 11, none⟩ = some (.string a1_11) := (blk_cell BK234.out 11).trans rfl
        have hcz25_12 : w5.cell? ⟨gb234, 12, none⟩ = some (.slice A1_12 l1_12.length c1_12) := (blk_cell BK234.out 12).trans rfl
        have hfz25_0 := blk_frozen BK234.out 0
        have hfz25_1 := blk_frozen BK234.out 1
        have hfz25_2 := blk_frozen BK234.out 2
        have hfz25_3 := blk_frozen BK234.out 3
        have hfz25_4 := blk_frozen BK234.out 4
        have hfz25_5 := blk_frozen BK234.out 5
        have hfz25_6 := blk_frozen BK234.out 6
        have hfz25_7 := blk_frozen BK234.out 7
        have hfz25_8 := blk_frozen BK234.out 8
        have hfz25_9 := blk_frozen BK234.out 9
        have hfz25_10 := blk_frozen BK234.out 10
        have hfz25_11 := blk_frozen BK234.out 11
        have hfz25_12 := blk_frozen BK234.out 12
        go_wp2
        repeat (go_quiet (fail); try go_wp2)
        go_meet
        case rel => exact ⟨_, (true), (by first | rfl | (simp; done) | (simp [*]; done)), H', ⟨by first | omega | exact Nat.le_refl _⟩, ⟨by (with_reducible repeat (first | refine blk_drewN ?_ _ | refine blk_drew ?_ | refine blk_alloc ?_ _)); exact BK233.out⟩, ⟨by (with_reducible repeat (first | refine blk_drewN ?_ _ | refine blk_drew ?_ | refine blk_alloc ?_ _)); exact BK234.out⟩, ⟨by repeat (first | (with_reducible first | exact HB.out | apply below_alloc | apply pw_below_drewN | apply below_drew1 | refine below_set ?_ GE233.out | refine below_set ?_ GE234.out) | exact HB.out)⟩⟩
    · rw [if_neg c6] at H
      have c6b0 : (a0_0 == a1_0) = false := beq_eq_false_iff_ne.mpr c6
      have c6b1 : (a0_0 != a1_0) = true := bne_iff_ne.mpr c6
      (first | rw [c6b0] | (simp only [i64_w, i32_w]; rw [c6b0]) | skip)
      have H' := Aside0.mk H
      clear H
      have hnb26 := NB233_234.out
      have hnc26 := NB234_233.out
      have hcz27_0 : w5.cell? ⟨gb233, 0, none⟩ = some (.int .i64 a0_0) := (blk_cell BK233.out 0).trans rfl
      have hcz27_1 : w5.cell? ⟨gb233, 1, none⟩ = some (.int .u64 a0_1) := (blk_cell BK233.out 1).trans rfl
      have hcz27_2 : w5.cell? ⟨gb233, 2, none⟩ = some (.int .u64 a0_2) := (blk_cell BK233.out 2).trans rfl
      have hcz27_3 : w5.cell? ⟨gb233, 3, none⟩ = some (.int .u64 a0_3) := (blk_cell BK233.out 3).trans rfl
      have hcz27_4 : w5.cell? ⟨gb233, 4, none⟩ = some (.string a0_4) := (blk_cell BK233.out 4).trans rfl
      have hcz27_5 : w5.cell? ⟨gb233, 5, none⟩ = some (.string a0_5) := (blk_cell BK233.out 5).trans rfl
      have hcz27_6 : w5.cell? ⟨gb233, 6, none⟩ = some (.int .u64 a0_6) := (blk_cell BK233.out 6).trans rfl
      have hcz27_7 : w5.cell? ⟨gb233, 7, none⟩ = some (.int .u64 a0_7) := (blk_cell BK233.out 7).trans rfl
      have hcz27_8 : w5.cell? ⟨gb233, 8, none⟩ = some (.string a0_8) := (blk_cell BK233.out 8).trans rfl
      have hcz27_9 : w5.cell? ⟨gb233, 9, none⟩ = some (.int .u64 a0_9) := (blk_cell BK233.out 9).trans rfl
      have hcz27_10 : w5.cell? ⟨gb233, 10, none⟩ = some (.int .u64 a0_10) := (blk_cell BK233.out 10).trans rfl
      have hcz27_11 : w5.cell? ⟨gb233, 11, none⟩ = some (.string a0_11) := (blk_cell BK233.out 11).trans rfl
      have hcz27_12 : w5.cell? ⟨gb233, 12, none⟩ = some (.slice A0_12 l0_12.length c0_12) := (blk_cell BK233.out 12).trans rfl
      have hfz27_0 := blk_frozen BK233.out 0
      have hfz27_1 := blk_frozen BK233.out 1
      have hfz27_2 := blk_frozen BK233.out 2
      have hfz27_3 := blk_frozen BK233.out 3
      have hfz27_4 := blk_frozen BK233.out 4
      have hfz27_5 := blk_frozen BK233.out 5
      have hfz27_6 := blk_frozen BK233.out 6
      have hfz27_7 := blk_frozen BK233.out 7
      have hfz27_8 := blk_frozen BK233.out 8
      have hfz27_9 := blk_frozen BK233.out 9
      have hfz27_10 := blk_frozen BK233.out 10
      have hfz27_11 := blk_frozen BK233.out 11
      have hfz27_12 := blk_frozen BK233.out 12
      have hcz28_0 : w5.cell? ⟨gb234, 0, none⟩ = some (.int .i64 a1_0) := (blk_cell BK234.out 0).trans rfl
      have hcz28_1 : w5.cell? ⟨gb234, 1, none⟩ = some (.int .u64 a1_1) := (blk_cell BK234.out 1).trans rfl
      have hcz28_2 : w5.cell? ⟨gb234, 2, none⟩ = some (.int .u64 a1_2) := (blk_cell BK234.out 2).trans rfl
      have hcz28_3 : w5.cell? ⟨gb234, 3, none⟩ = some (.int .u64 a1_3) := (blk_cell BK234.out 3).trans rfl
      have hcz28_4 : w5.cell? ⟨gb234, 4, none⟩ = some (.string a1_4) := (blk_cell BK234.out 4).trans rfl
      have hcz28_5 : w5.cell? ⟨gb234, 5, none⟩ = some (.string a1_5) := (blk_cell BK234.out 5).trans rfl
      have hcz28_6 : w5.cell? ⟨gb234, 6, none⟩ = some (.int .u64 a1_6) := (blk_cell BK234.out 6).trans rfl
      have hcz28_7 : w5.cell? ⟨gb234, 7, none⟩ = some (.int .u64 a1_7) := (blk_cell BK234.out 7).trans rfl
      have hcz28_8 : w5.cell? ⟨gb234, 8, none⟩ = some (.string a1_8) := (blk_cell BK234.out 8).trans rfl
      have hcz28_9 : w5.cell? ⟨gb234, 9, none⟩ = some (.int .u64 a1_9) := (blk_cell BK234.out 9).trans rfl
      have hcz28_10 : w5.cell? ⟨gb234, 10, none⟩ = some (.int .u64 a1_10) := (blk_cell BK234.out 10).trans rfl
      have hcz28_11 : w5.cell? ⟨gb234, 11, none⟩ = some (.string a1_11) := (blk_cell BK234.out 11).trans rfl
      have hcz28_12 : w5.cell? ⟨gb234, 12, none⟩ = some (.slice A1_12 l1_12.length c1_12) := (blk_cell BK234.out 12).trans rfl
      have hfz28_0 := blk_frozen BK234.out 0
      have hfz28_1 := blk_frozen BK234.out 1
      have hfz28_2 := blk_frozen BK234.out 2
      have hfz28_3 := blk_frozen BK234.out 3
      have hfz28_4 := blk_frozen BK234.out 4
      have hfz28_5 := blk_frozen BK234.out 5
      have hfz28_6 := blk_frozen BK234.out 6
      have hfz28_7 := blk_frozen BK234.out 7
      have hfz28_8 := blk_frozen BK234.out 8
      have hfz28_9 := blk_frozen BK234.out 9
      have hfz28_10 := blk_frozen BK234.out 10
      have hfz28_11 := blk_frozen BK234.out 11
      have hfz28_12 := blk_frozen BK234.out 12
      go_wp2
      repeat (go_quiet (fail); try go_wp2)
      go_meet
      case rel => exact ⟨_, (true), (by first | rfl | (simp; done) | (simp [*]; done)), H', ⟨by first | omega | exact Nat.le_refl _⟩, ⟨by (with_reducible repeat (first | refine blk_drewN ?_ _ | refine blk_drew ?_ | refine blk_alloc ?_ _)); exact BK233.out⟩, ⟨by (with_reducible repeat (first | refine blk_drewN ?_ _ | refine blk_drew ?_ | refine blk_alloc ?_ _)); exact BK234.out⟩, ⟨by repeat (first | (with_reducible first | exact HB.out | apply below_alloc | apply pw_below_drewN | apply below_drew1 | refine below_set ?_ GE233.out | refine below_set ?_ GE234.out) | exact HB.out)⟩⟩
  case rest =>
    clear HC3
    try clear c1
    try clear c2
    try clear p2
    try clear c6
    try clear c6b0
    try clear c6b1
    try clear c7
    try clear c7b0
    try clear c7b1
    try clear c8
    try clear c8b0
    try clear c8b1
    try clear c9
    try clear c9b0
    try clear c9b1
    try clear c10
    try clear c10b0
    try clear c10b1
    try clear c11
    try clear c14
    try clear c17
    try clear c20
    try clear c23
    try clear c26
    try clear hcz12_0
    try clear hcz12_1
    try clear hcz12_10
    try clear hcz12_11
    try clear hcz12_12
    try clear hcz12_2
    try clear hcz12_3
    try clear hcz12_4
    try clear hcz12_5
    try clear hcz12_6
    try clear hcz12_7
    try clear hcz12_8
    try clear hcz12_9
    try clear hcz13_0
    try clear hcz13_1
    try clear hcz13_10
    try clear hcz13_11
    try clear hcz13_12
    try clear hcz13_2
    try clear hcz13_3
    try clear hcz13_4
    try clear hcz13_5
    try clear hcz13_6
    try clear hcz13_7
    try clear hcz13_8
    try clear hcz13_9
    try clear hcz15_0
    try clear hcz15_1
    try clear hcz15_10
    try clear hcz15_11
    try clear hcz15_12
    try clear hcz15_2
    try clear hcz15_3
    try clear hcz15_4
    try clear hcz15_5
    try clear hcz15_6
    try clear hcz15_7
    try clear hcz15_8
    try clear hcz15_9
    try clear hcz16_0
    try clear hcz16_1
    try clear hcz16_10
    try clear hcz16_11
    try clear hcz16_12
    try clear hcz16_2
    try clear hcz16_3
    try clear hcz16_4
    try clear hcz16_5
    try clear hcz16_6
    try clear hcz16_7
    try clear hcz16_8
    try clear hcz16_9
    try clear hcz18_0
    try clear hcz18_1
    try clear hcz18_10
    try clear hcz18_11
    try clear hcz18_12
    try clear hcz18_2
    try clear hcz18_3
    try clear hcz18_4
    try clear hcz18_5
    try clear hcz18_6
    try clear hcz18_7
    try clear hcz18_8
    try clear hcz18_9
    try clear hcz19_0
    try clear hcz19_1
    try clear hcz19_10
    try clear hcz19_11
    try clear hcz19_12
    try clear hcz19_2
    try clear hcz19_3
    try clear hcz19_4
    try clear hcz19_5
    try clear hcz19_6
    try clear hcz19_7
    try clear hcz19_8
    try clear hcz19_9
    try clear hcz21_0
    try clear hcz21_1
    try clear hcz21_10
    try clear hcz21_11
    try clear hcz21_12
    try clear hcz21_2
    try clear hcz21_3
    try clear hcz21_4
    try clear hcz21_5
    try clear hcz21_6
    try clear hcz21_7
    try clear hcz21_8
    try clear hcz21_9
    try clear hcz22_0
    try clear hcz22_1
    try clear hcz22_10
    try clear hcz22_11
    try clear hcz22_12
    try clear hcz22_2
    try clear hcz22_3
    try clear hcz22_4
    try clear hcz22_5
    try clear hcz22_6
    try clear hcz22_7
    try clear hcz22_8
    try clear hcz22_9
    try clear hcz24_0
    try clear hcz24_1
    try clear hcz24_10
    try clear hcz24_11
    try clear hcz24_12
    try clear hcz24_2
    try clear hcz24_3
    try clear hcz24_4
    try clear hcz24_5
    try clear hcz24_6
    try clear hcz24_7
    try clear hcz24_8
    try clear hcz24_9
    try clear hcz25_0
    try clear hcz25_1
    try clear hcz25_10
    try clear hcz25_11
    try clear hcz25_12
    try clear hcz25_2
    try clear hcz25_3
    try clear hcz25_4
    try clear hcz25_5
    try clear hcz25_6
    try clear hcz25_7
    try clear hcz25_8
    try clear hcz25_9
    try clear hcz27_0
    try clear hcz27_1
    try clear hcz27_10
    try clear hcz27_11
    try clear hcz27_12
    try clear hcz27_2
    try clear hcz27_3
    try clear hcz27_4
    try clear hcz27_5
    try clear hcz27_6
    try clear hcz27_7
    try clear hcz27_8
    try clear hcz27_9
    try clear hcz28_0
    try clear hcz28_1
    try clear hcz28_10
    try clear hcz28_11
    try clear hcz28_12
    try clear hcz28_2
    try clear hcz28_3
    try clear hcz28_4
    try clear hcz28_5
    try clear hcz28_6
    try clear hcz28_7
    try clear hcz28_8
    try clear hcz28_9
    try clear hfz12_0
    try clear hfz12_1
    try clear hfz12_10
    try clear hfz12_11
    try clear hfz12_12
    try clear hfz12_2
    try clear hfz12_3
    try clear hfz12_4
    try clear hfz12_5
    try clear hfz12_6
    try clear hfz12_7
    try clear hfz12_8
    try clear hfz12_9
    try clear hfz13_0
    try clear hfz13_1
    try clear hfz13_10
    try clear hfz13_11
    try clear hfz13_12
    try clear hfz13_2
    try clear hfz13_3
    try clear hfz13_4
    try clear hfz13_5
    try clear hfz13_6
    try clear hfz13_7
    try clear hfz13_8
    try clear hfz13_9
    try clear hfz15_0
    try clear hfz15_1
    try clear hfz15_10
    try clear hfz15_11
    try clear hfz15_12
    try clear hfz15_2
    try clear hfz15_3
    try clear hfz15_4
    try clear hfz15_5
    try clear hfz15_6
    try clear hfz15_7
    try clear hfz15_8
    try clear hfz15_9
    try clear hfz16_0
    try clear hfz16_1
    try clear hfz16_10
    try clear hfz16_11
    try clear hfz16_12
    try clear hfz16_2
    try clear hfz16_3
    try clear hfz16_4
    try clear hfz16_5
    try clear hfz16_6
    try clear hfz16_7
    try clear hfz16_8
    try clear hfz16_9
    try clear hfz18_0
    try clear hfz18_1
    try clear hfz18_10
    try clear hfz18_11
    try clear hfz18_12
    try clear hfz18_2
    try clear hfz18_3
    try clear hfz18_4
    try clear hfz18_5
    try clear hfz18_6
    try clear hfz18_7
    try clear hfz18_8
    try clear hfz18_9
    try clear hfz19_0
    try clear hfz19_1
    try clear hfz19_10
    try clear hfz19_11
    try clear hfz19_12
    try clear hfz19_2
    try clear hfz19_3
    try clear hfz19_4
    try clear hfz19_5
    try clear hfz19_6
    try clear hfz19_7
    try clear hfz19_8
    try clear hfz19_9
    try clear hfz21_0
    try clear hfz21_1
    try clear hfz21_10
    try clear hfz21_11
    try clear hfz21_12
    try clear hfz21_2
    try clear hfz21_3
    try clear hfz21_4
    try clear hfz21_5
    try clear hfz21_6
    try clear hfz21_7
    try clear hfz21_8
    try clear hfz21_9
    try clear hfz22_0
    try clear hfz22_1
    try clear hfz22_10
    try clear hfz22_11
    try clear hfz22_12
    try clear hfz22_2
    try clear hfz22_3
    try clear hfz22_4
    try clear hfz22_5
    try clear hfz22_6
    try clear hfz22_7
    try clear hfz22_8
    try clear hfz22_9
    try clear hfz24_0
    try clear hfz24_1
    try clear hfz24_10
    try clear hfz24_11
    try clear hfz24_12
    try clear hfz24_2
    try clear hfz24_3
    try clear hfz24_4
    try clear hfz24_5
    try clear hfz24_6
    try clear hfz24_7
    try clear hfz24_8
    try clear hfz24_9
    try clear hfz25_0
    try clear hfz25_1
    try clear hfz25_10
    try clear hfz25_11
    try clear hfz25_12
    try clear hfz25_2
    try clear hfz25_3
    try clear hfz25_4
    try clear hfz25_5
    try clear hfz25_6
    try clear hfz25_7
    try clear hfz25_8
    try clear hfz25_9
    try clear hfz27_0
    try clear hfz27_1
    try clear hfz27_10
    try clear hfz27_11
    try clear hfz27_12
    try clear hfz27_2
    try clear hfz27_3
    try clear hfz27_4
    try clear hfz27_5
    try clear hfz27_6
    try clear hfz27_7
    try clear hfz27_8
    try clear hfz27_9
    try clear hfz28_0
    try clear hfz28_1
    try clear hfz28_10
    try clear hfz28_11
    try clear hfz28_12
    try clear hfz28_2
    try clear hfz28_3
    try clear hfz28_4
    try clear hfz28_5
    try clear hfz28_6
    try clear hfz28_7
    try clear hfz28_8
    try clear hfz28_9
    obtain ⟨kq, x45_2, rfl, HA, HJ2, BK233, BK234, HB⟩ := hcut
    cases kq with
    | zero => exact absurd HA.out (by simp [demurralref08_Same.j0])
    | succ kj2 =>
      have H := HA.out
      clear HA
      simp only [demurralref08_Same.j0] at H
      by_cases c29 : x45_2 = true
      · subst c29
        have H1 : (some false) = some r := by rw [if_pos rfl] at H; exact H
        clear H
        have H := H1
        clear H1
        obtain rfl := Option.some.inj H
        go_wp2
        repeat (go_quiet (fail); try go_wp2)
        go_ret
        exact ⟨by first | rfl | (simp [errW_none, errW_some] <;> rfl) | (simp [*, errW_none, errW_some] <;> rfl), by repeat (first | (with_reducible first | exact HB.out | apply below_alloc | apply pw_below_drewN | apply below_drew1 | refine below_set ?_ GE233.out | refine below_set ?_ GE234.out) | exact HB.out)⟩
      · replace c29 := Bool.eq_false_iff.mpr c29
        subst c29
        have H1 : (if a0_6 = a1_6 then (if a0_7 = a1_7 then (if a0_8.toList = a1_8.toList then (if a0_9 = a1_9 then (if a0_10 = a1_10 then (if a0_11.toList = a1_11.toList then (demurralref08_Same.j1 kj2 ((l0_12.length : Int) != (l1_12.length : Int)) a0_0 a0_1 a0_2 a0_3 a0_4 a0_5 a0_6 a0_7 a0_8 a0_9 a0_10 a0_11 l0_12 a1_0 a1_1 a1_2 a1_3 a1_4 a1_5 a1_6 a1_7 a1_8 a1_9 a1_10 a1_11 l1_12) else (demurralref08_Same.j1 kj2 true a0_0 a0_1 a0_2 a0_3 a0_4 a0_5 a0_6 a0_7 a0_8 a0_9 a0_10 a0_11 l0_12 a1_0 a1_1 a1_2 a1_3 a1_4 a1_5 a1_6 a1_7 a1_8 a1_9 a1_10 a1_11 l1_12)) else (demurralref08_Same.j1 kj2 true a0_0 a0_1 a0_2 a0_3 a0_4 a0_5 a0_6 a0_7 a0_8 a0_9 a0_10 a0_11 l0_12 a1_0 a1_1 a1_2 a1_3 a1_4 a1_5 a1_6 a1_7 a1_8 a1_9 a1_10 a1_11 l1_12)) else (demurralref08_Same.j1 kj2 true a0_0 a0_1 a0_2 a0_3 a0_4 a0_5 a0_6 a0_7 a0_8 a0_9 a0_10 a0_11 l0_12 a1_0 a1_1 a1_2 a1_3 a1_4 a1_5 a1_6 a1_7 a1_8 a1_9 a1_10 a1_11 l1_12)) else (demurralref08_Same.j1 kj2 true a0_0 a0_1 a0_2 a0_3 a0_4 a0_5 a0_6 a0_7 a0_8 a0_9 a0_10 a0_11 l0_12 a1_0 a1_1 a1_2 a1_3 a1_4 a1_5 a1_6 a1_7 a1_8 a1_9 a1_10 a1_11 l1_12)) else (demurralref08_Same.j1 kj2 true a0_0 a0_1 a0_2 a0_3 a0_4 a0_5 a0_6 a0_7 a0_8 a0_9 a0_10 a0_11 l0_12 a1_0 a1_1 a1_2 a1_3 a1_4 a1_5 a1_6 a1_7 a1_8 a1_9 a1_10 a1_11 l1_12)) else (demurralref08_Same.j1 kj2 true a0_0 a0_1 a0_2 a0_3 a0_4 a0_5 a0_6 a0_7 a0_8 a0_9 a0_10 a0_11 l0_12 a1_0 a1_1 a1_2 a1_3 a1_4 a1_5 a1_6 a1_7 a1_8 a1_9 a1_10 a1_11 l1_12)) = some r := by rw [if_neg (show ¬ (false = true) by decide)] at H; exact H
        clear H
        have H := H1
        clear H1
        have HC30 := Aside0.mk H
        clear H
        go_upto_region 3 with (fail)
        repeat (go_quiet (fail); go_upto_region 3 with (fail))
        go_cut [94] (fun v94 wc => ∃ (kq : Nat) (x94_29 : Bool), v94 = .bool x94_29 ∧ Aside0 (demurralref08_Same.j1 kq x94_29 a0_0 a0_1 a0_2 a0_3 a0_4 a0_5 a0_6 a0_7 a0_8 a0_9 a0_10 a0_11 l0_12 a1_0 a1_1 a1_2 a1_3 a1_4 a1_5 a1_6 a1_7 a1_8 a1_9 a1_10 a1_11 l1_12 = some r) ∧ Aside0 (kq ≤ kj2) ∧ Aside0 (wc.heap[gb233]? = some (.cells #[.int .i64 a0_0, .int .u64 a0_1, .int .u64 a0_2, .int .u64 a0_3, .string a0_4, .string a0_5, .int .u64 a0_6, .int .u64 a0_7, .string a0_8, .int .u64 a0_9, .int .u64 a0_10, .string a0_11, (.slice A0_12 l0_12.length c0_12)] 25 (0, 0))) ∧ Aside0 (wc.heap[gb234]? = some (.cells #[.int .i64 a1_0, .int .u64 a1_1, .int .u64 a1_2, .int .u64 a1_3, .string a1_4, .string a1_5, .int .u64 a1_6, .int .u64 a1_7, .string a1_8, .int .u64 a1_9, .int .u64 a1_10, .string a1_11, (.slice A1_12 l1_12.length c1_12)] 25 (0, 0))) ∧ Aside0 (Below w.heap.size w wc))
        case first =>
          have H := HC30.out
          clear HC30
          by_cases c31 : a0_6 = a1_6
          · rw [if_pos c31] at H
            have c31b0 : (a0_6 == a1_6) = true := beq_iff_eq.mpr c31
            have c31b1 : (a0_6 != a1_6) = false := bne_eq_false_iff_eq.mpr c31
            clear c31
            (first | rw [c31b0] | (simp only [i64_w, i32_w]; rw [c31b0]) | skip)
            by_cases c32 : a0_7 = a1_7
            · rw [if_pos c32] at H
              have c32b0 : (a0_7 == a1_7) = true := beq_iff_eq.mpr c32
              have c32b1 : (a0_7 != a1_7) = false := bne_eq_false_iff_eq.mpr c32
              clear c32
              by_cases c33 : a0_8.toList = a1_8.toList
              · rw [if_pos c33] at H
                have c33b0 : (a0_8.toList == a1_8.toList) = true := beq_iff_eq.mpr c33
                have c33b1 : (a0_8.toList != a1_8.toList) = false := bne_eq_false_iff_eq.mpr c33
                clear c33
                by_cases c34 : a0_9 = a1_9
                · rw [if_pos c34] at H
                  have c34b0 : (a0_9 == a1_9) = true := beq_iff_eq.mpr c34
                  have c34b1 : (a0_9 != a1_9) = false := bne_eq_false_iff_eq.mpr c34
                  clear c34
                  by_cases c35 : a0_10 = a1_10
                  · rw [if_pos c35] at H
                    have c35b0 : (a0_10 == a1_10) = true := beq_iff_eq.mpr c35
                    have c35b1 : (a0_10 != a1_10) = false := bne_eq_false_iff_eq.mpr c35
                    clear c35
                    by_cases c36 : a0_11.toList = a1_11.toList
                    · rw [if_pos c36] at H
                      have c36b0 : (a0_11.toList == a1_11.toList) = true := beq_iff_eq.mpr c36
                      have c36b1 : (a0_11.toList != a1_11.toList) = false := bne_eq_false_iff_eq.mpr c36
                      clear c36
                      have H' := Aside0.mk H
                      clear H
                      have hnb37 := NB233_234.out
                      have hnc37 := NB234_233.out
                      have hcz38_0 : wc.cell? ⟨gb233, 0, none⟩ = some (.int .i64 a0_0) := (blk_cell BK233.out 0).trans rfl
                      have hcz38_1 : wc.cell? ⟨gb233, 1, none⟩ = some (.int .u64 a0_1) := (blk_cell BK233.out 1).trans rfl
                      have hcz38_2 : wc.cell? ⟨gb233, 2, none⟩ = some (.int .u64 a0_2) := (blk_cell BK233.out 2).trans rfl
                      have hcz38_3 : wc.cell? ⟨gb233, 3, none⟩ = some (.int .u64 a0_3) := (blk_cell BK233.out 3).trans rfl
                      have hcz38_4 : wc.cell? ⟨gb233, 4, none⟩ = some (.string a0_4) := (blk_cell BK233.out 4).trans rfl
                      have hcz38_5 : wc.cell? ⟨gb233, 5, none⟩ = some (.string a0_5) := (blk_cell BK233.out 5).trans rfl
                      have hcz38_6 : wc.cell? ⟨gb233, 6, none⟩ = some (.int .u64 a0_6) := (blk_cell BK233.out 6).trans rfl
                      have hcz38_7 : wc.cell? ⟨gb233, 7, none⟩ = some (.int .u64 a0_7) := (blk_cell BK233.out 7).trans rfl
                      have hcz38_8 : wc.cell? ⟨gb233, 8, none⟩ = some (.string a0_8) := (blk_cell BK233.out 8).trans rfl
                      have hcz38_9 : wc.cell? ⟨gb233, 9, none⟩ = some (.int .u64 a0_9) := (blk_cell BK233.out 9).trans rfl
                      have hcz38_10 : wc.cell? ⟨gb233, 10, none⟩ = some (.int .u64 a0_10) := (blk_cell BK233.out 10).trans rfl
                      have hcz38_11 : wc.cell? ⟨gb233, 11, none⟩ = some (.string a0_11) := (blk_cell BK233.out 11).trans rfl
                      have hcz38_12 : wc.cell? ⟨gb233, 12, none⟩ = some (.slice A0_12 l0_12.length c0_12) := (blk_cell BK233.out 12).trans rfl
                      have hfz38_0 := blk_frozen BK233.out 0
                      have hfz38_1 := blk_frozen BK233.out 1
                      have hfz38_2 := blk_frozen BK233.out 2
                      have hfz38_3 := blk_frozen BK233.out 3
                      have hfz38_4 := blk_frozen BK233.out 4
                      have hfz38_5 := blk_frozen BK233.out 5
                      have hfz38_6 := blk_frozen BK233.out 6
                      have hfz38_7 := blk_frozen BK233.out 7
                      have hfz38_8 := blk_frozen BK233.out 8
                      have hfz38_9 := blk_frozen BK233.out 9
                      have hfz38_10 := blk_frozen BK233.out 10
                      have hfz38_11 := blk_frozen BK233.out 11
                      have hfz38_12 := blk_frozen BK233.out 12
                      have hcz39_0 : wc.cell? ⟨gb234, 0, none⟩ = some (.int .i64 a1_0) := (blk_cell BK234.out 0).trans rfl
                      have hcz39_1 : wc.cell? ⟨gb234, 1, none⟩ = some (.int .u64 a1_1) := (blk_cell BK234.out 1).trans rfl
                      have hcz39_2 : wc.cell? ⟨gb234, 2, none⟩ = some (.int .u64 a1_2) := (blk_cell BK234.out 2).trans rfl
                      have hcz39_3 : wc.cell? ⟨gb234, 3, none⟩ = some (.int .u64 a1_3) := (blk_cell BK234.out 3).trans rfl
                      have hcz39_4 : wc.cell? ⟨gb234, 4, none⟩ = some (.string a1_4) := (blk_cell BK234.out 4).trans rfl
                      have hcz39_5 : wc.cell? ⟨gb234, 5, none⟩ = some (.string a1_5) := (blk_cell BK234.out 5).trans rfl
                      have hcz39_6 : wc.cell? ⟨gb234, 6, none⟩ = some (.int .u64 a1_6) := (blk_cell BK234.out 6).trans rfl
                      have hcz39_7 : wc.cell? ⟨gb234, 7, none⟩ = some (.int .u64 a1_7) := (blk_cell BK234.out 7).trans rfl
                      have hcz39_8 : wc.cell? ⟨gb234, 8, none⟩ = some (.string a1_8) := (blk_cell BK234.out 8).trans rfl
                      have hcz39_9 : wc.cell? ⟨gb234, 9, none⟩ = some (.int .u64 a1_9) := (blk_cell BK234.out 9).trans rfl
                      have hcz39_10 : wc.cell? ⟨gb234, 10, none⟩ = some (.int .u64 a1_10) := (blk_cell BK234.out 10).trans rfl
                      have hcz39_11 : wc.cell? ⟨gb234, 11, none⟩ = some (.string a1_11) := (blk_cell BK234.out 11).trans rfl
                      have hcz39_12 : wc.cell? ⟨gb234, 12, none⟩ = some (.slice A1_12 l1_12.length c1_12) := (blk_cell BK234.out 12).trans rfl
                      have hfz39_0 := blk_frozen BK234.out 0
                      have hfz39_1 := blk_frozen BK234.out 1
                      have hfz39_2 := blk_frozen BK234.out 2
                      have hfz39_3 := blk_frozen BK234.out 3
                      have hfz39_4 := blk_frozen BK234.out 4
                      have hfz39_5 := blk_frozen BK234.out 5
                      have hfz39_6 := blk_frozen BK234.out 6
                      have hfz39_7 := blk_frozen BK234.out 7
                      have hfz39_8 := blk_frozen BK234.out 8
                      have hfz39_9 := blk_frozen BK234.out 9
                      have hfz39_10 := blk_frozen BK234.out 10
                      have hfz39_11 := blk_frozen BK234.out 11
                      have hfz39_12 := blk_frozen BK234.out 12
                      go_wp2
                      repeat (go_quiet (fail); try go_wp2)
                      go_meet
                      case rel => exact ⟨_, (((l0_12.length : Int) != (l1_12.length : Int))), (by first | rfl | (simp; done) | (simp [*]; done)), H', ⟨by have := HJ2.out; first | omega | exact Nat.le_refl _⟩, ⟨by (with_reducible repeat (first | refine blk_drewN ?_ _ | refine blk_drew ?_ | refine blk_alloc ?_ _)); exact BK233.out⟩, ⟨by (with_reducible repeat (first | refine blk_drewN ?_ _ | refine blk_drew ?_ | refine blk_alloc ?_ _)); exact BK234.out⟩, ⟨by repeat (first | (with_reducible first | exact HB.out | apply below_alloc | apply pw_below_drewN | apply below_drew1 | refine below_set ?_ GE233.out | refine below_set ?_ GE234.out) | exact HB.out)⟩⟩
                    · rw [if_neg c36] at H
                      have c36b0 : (a0_11.toList == a1_11.toList) = false := beq_eq_false_iff_ne.mpr c36
                      have c36b1 : (a0_11.toList != a1_11.toList) = true := bne_iff_ne.mpr c36
                      have H' := Aside0.mk H
                      clear H
                      have hnb40 := NB233_234.out
                      have hnc40 := NB234_233.out
                      have hcz41_0 : wc.cell? ⟨gb233, 0, none⟩ = some (.int .i64 a0_0) := (blk_cell BK233.out 0).trans rfl
                      have hcz41_1 : wc.cell? ⟨gb233, 1, none⟩ = some (.int .u64 a0_1) := (blk_cell BK233.out 1).trans rfl
                      have hcz41_2 : wc.cell? ⟨gb233, 2, none⟩ = some (.int .u64 a0_2) := (blk_cell BK233.out 2).trans rfl
                      have hcz41_3 : wc.cell? ⟨gb233, 3, none⟩ = some (.int .u64 a0_3) := (blk_cell BK233.out 3).trans rfl
                      have hcz41_4 : wc.cell? ⟨gb233, 4, none⟩ = some (.string a0_4) := (blk_cell BK233.out 4).trans rfl
                      have hcz41_5 : wc.cell? ⟨gb233, 5, none⟩ = some (.string a0_5) := (blk_cell BK233.out 5).trans rfl
                      have hcz41_6 : wc.cell? ⟨gb233, 6, none⟩ = some (.int .u64 a0_6) := (blk_cell BK233.out 6).trans rfl
                      have hcz41_7 : wc.cell? ⟨gb233, 7, none⟩ = some (.int .u64 a0_7) := (blk_cell BK233.out 7).trans rfl
                      have hcz41_8 : wc.cell? ⟨gb233, 8, none⟩ = some (.string a0_8) := (blk_cell BK233.out 8).trans rfl
                      have hcz41_9 : wc.cell? ⟨gb233, 9, none⟩ = some (.int .u64 a0_9) := (blk_cell BK233.out 9).trans rfl
                      have hcz41_10 : wc.cell? ⟨gb233, 10, none⟩ = some (.int .u64 a0_10) := (blk_cell BK233.out 10).trans rfl
                      have hcz41_11 : wc.cell? ⟨gb233, 11, none⟩ = some (.string a0_11) := (blk_cell BK233.out 11).trans rfl
                      have hcz41_12 : wc.cell? ⟨gb233, 12, none⟩ = some (.slice A0_12 l0_12.length c0_12) := (blk_cell BK233.out 12).trans rfl
                      have hfz41_0 := blk_frozen BK233.out 0
                      have hfz41_1 := blk_frozen BK233.out 1
                      have hfz41_2 := blk_frozen BK233.out 2
                      have hfz41_3 := blk_frozen BK233.out 3
                      have hfz41_4 := blk_frozen BK233.out 4
                      have hfz41_5 := blk_frozen BK233.out 5
                      have hfz41_6 := blk_frozen BK233.out 6
                      have hfz41_7 := blk_frozen BK233.out 7
                      have hfz41_8 := blk_frozen BK233.out 8
                      have hfz41_9 := blk_frozen BK233.out 9
                      have hfz41_10 := blk_frozen BK233.out 10
                      have hfz41_11 := blk_frozen BK233.out 11
                      have hfz41_12 := blk_frozen BK233.out 12
                      have hcz42_0 : wc.cell? ⟨gb234, 0, none⟩ = some (.int .i64 a1_0) := (blk_cell BK234.out 0).trans rfl
                      have hcz42_1 : wc.cell? ⟨gb234, 1, none⟩ = some (.int .u64 a1_1) := (blk_cell BK234.out 1).trans rfl
                      have hcz42_2 : wc.cell? ⟨gb234, 2, none⟩ = some (.int .u64 a1_2) := (blk_cell BK234.out 2).trans rfl
                      have hcz42_3 : wc.cell? ⟨gb234, 3, none⟩ = some (.int .u64 a1_3) := (blk_cell BK234.out 3).trans rfl
                      have hcz42_4 : wc.cell? ⟨gb234, 4, none⟩ = some (.string a1_4) := (blk_cell BK234.out 4).trans rfl
                      have hcz42_5 : wc.cell? ⟨gb234, 5, none⟩ = some (.string a1_5) := (blk_cell BK234.out 5).trans rfl
                      have hcz42_6 : wc.cell? ⟨gb234, 6, none⟩ = some (.int .u64 a1_6) := (blk_cell BK234.out 6).trans rfl
                      have hcz42_7 : wc.cell? ⟨gb234, 7, none⟩ = some (.int .u64 a1_7) := (blk_cell BK234.out 7).trans rfl
                      have hcz42_8 : wc.cell? ⟨gb234, 8, none⟩ = some (.string a1_8) := (blk_cell BK234.out 8).trans rfl
                      have hcz42_9 : wc.cell? ⟨gb234, 9, none⟩ = some (.int .u64 a1_9) := (blk_cell BK234.out 9).trans rfl
                      have hcz42_10 : wc.cell? ⟨gb234, 10, none⟩ = some (.int .u64 a1_10) := (blk_cell BK234.out 10).trans rfl
                      have hcz42_11 : wc.cell? ⟨gb234, 11, none⟩ = some (.string a1_11) := (blk_cell BK234.out 11).trans rfl
                      have hcz42_12 : wc.cell? ⟨gb234, 12, none⟩ = some (.slice A1_12 l1_12.length c1_12) := (blk_cell BK234.out 12).trans rfl
                      have hfz42_0 := blk_frozen BK234.out 0
                      have hfz42_1 := blk_frozen BK234.out 1
                      have hfz42_2 := blk_frozen BK234.out 2
                      have hfz42_3 := blk_frozen BK234.out 3
                      have hfz42_4 := blk_frozen BK234.out 4
                      have hfz42_5 := blk_frozen BK234.out 5
                      have hfz42_6 := blk_frozen BK234.out 6
                      have hfz42_7 := blk_frozen BK234.out 7
                      have hfz42_8 := blk_frozen BK234.out 8
                      have hfz42_9 := blk_frozen BK234.out 9
                      have hfz42_10 := blk_frozen BK234.out 10
                      have hfz42_11 := blk_frozen BK234.out 11
                      have hfz42_12 := blk_frozen BK234.out 12
                      go_wp2
                      repeat (go_quiet (fail); try go_wp2)
                      go_meet
                      case rel => exact ⟨_, (true), (by first | rfl | (simp; done) | (simp [*]; done)), H', ⟨by have := HJ2.out; first | omega | exact Nat.le_refl _⟩, ⟨by (with_reducible repeat (first | refine blk_drewN ?_ _ | refine blk_drew ?_ | refine blk_alloc ?_ _)); exact BK233.out⟩, ⟨by (with_reducible repeat (first | refine blk_drewN ?_ _ | refine blk_drew ?_ | refine blk_alloc ?_ _)); exact BK234.out⟩, ⟨by repeat (first | (with_reducible first | exact HB.out | apply below_alloc | apply pw_below_drewN | apply below_drew1 | refine below_set ?_ GE233.out | refine below_set ?_ GE234.out) | exact HB.out)⟩⟩
                  · rw [if_neg c35] at H
                    have c35b0 : (a0_10 == a1_10) = false := beq_eq_false_iff_ne.mpr c35
                    have c35b1 : (a0_10 != a1_10) = true := bne_iff_ne.mpr c35
                    have H' := Aside0.mk H
                    clear H
                    have hnb43 := NB233_234.out
                    have hnc43 := NB234_233.out
                    have hcz44_0 : wc.cell? ⟨gb233, 0, none⟩ = some (.int .i64 a0_0) := (blk_cell BK233.out 0).trans rfl
                    have hcz44_1 : wc.cell? ⟨gb233, 1, none⟩ = some (.int .u64 a0_1) := (blk_cell BK233.out 1).trans rfl
                    have hcz44_2 : wc.cell? ⟨gb233, 2, none⟩ = some (.int .u64 a0_2) := (blk_cell BK233.out 2).trans rfl
                    have hcz44_3 : wc.cell? ⟨gb233, 3, none⟩ = some (.int .u64 a0_3) := (blk_cell BK233.out 3).trans rfl
                    have hcz44_4 : wc.cell? ⟨gb233, 4, none⟩ = some (.string a0_4) := (blk_cell BK233.out 4).trans rfl
                    have hcz44_5 : wc.cell? ⟨gb233, 5, none⟩ = some (.string a0_5) := (blk_cell BK233.out 5).trans rfl
                    have hcz44_6 : wc.cell? ⟨gb233, 6, none⟩ = some (.int .u64 a0_6) := (blk_cell BK233.out 6).trans rfl
                    have hcz44_7 : wc.cell? ⟨gb233, 7, none⟩ = some (.int .u64 a0_7) := (blk_cell BK233.out 7).trans rfl
                    have hcz44_8 : wc.cell? ⟨gb233, 8, none⟩ = some (.string a0_8) := (blk_cell BK233.out 8).trans rfl
                    have hcz44_9 : wc.cell? ⟨gb233, 9, none⟩ = some (.int .u64 a0_9) := (blk_cell BK233.out 9).trans rfl
                    have hcz44_10 : wc.cell? ⟨gb233, 10, none⟩ = some (.int .u64 a0_10) := (blk_cell BK233.out 10).trans rfl
                    have hcz44_11 : wc.cell? ⟨gb233, 11, none⟩ = some (.string a0_11) := (blk_cell BK233.out 11).trans rfl
                    have hcz44_12 : wc.cell? ⟨gb233, 12, none⟩ = some (.slice A0_12 l0_12.length c0_12) := (blk_cell BK233.out 12).trans rfl
                    have hfz44_0 := blk_frozen BK233.out 0
                    have hfz44_1 := blk_frozen BK233.out 1
                    have hfz44_2 := blk_frozen BK233.out 2
                    have hfz44_3 := blk_frozen BK233.out 3
                    have hfz44_4 := blk_frozen BK233.out 4
                    have hfz44_5 := blk_frozen BK233.out 5
                    have hfz44_6 := blk_frozen BK233.out 6
                    have hfz44_7 := blk_frozen BK233.out 7
                    have hfz44_8 := blk_frozen BK233.out 8
                    have hfz44_9 := blk_frozen BK233.out 9
                    have hfz44_10 := blk_frozen BK233.out 10
                    have hfz44_11 := blk_frozen BK233.out 11
                    have hfz44_12 := blk_frozen BK233.out 12
                    have hcz45_0 : wc.cell? ⟨gb234, 0, none⟩ = some (.int .i64 a1_0) := (blk_cell BK234.out 0).trans rfl
                    have hcz45_1 : wc.cell? ⟨gb234, 1, none⟩ = some (.int .u64 a1_1) := (blk_cell BK234.out 1).trans rfl
                    have hcz45_2 : wc.cell? ⟨gb234, 2, none⟩ = some (.int .u64 a1_2) := (blk_cell BK234.out 2).trans rfl
                    have hcz45_3 : wc.cell? ⟨gb234, 3, none⟩ = some (.int .u64 a1_3) := (blk_cell BK234.out 3).trans rfl
                    have hcz45_4 : wc.cell? ⟨gb234, 4, none⟩ = some (.string a1_4) := (blk_cell BK234.out 4).trans rfl
                    have hcz45_5 : wc.cell? ⟨gb234, 5, none⟩ = some (.string a1_5) := (blk_cell BK234.out 5).trans rfl
                    have hcz45_6 : wc.cell? ⟨gb234, 6, none⟩ = some (.int .u64 a1_6) := (blk_cell BK234.out 6).trans rfl
                    have hcz45_7 : wc.cell? ⟨gb234, 7, none⟩ = some (.int .u64 a1_7) := (blk_cell BK234.out 7).trans rfl
                    have hcz45_8 : wc.cell? ⟨gb234, 8, none⟩ = some (.string a1_8) := (blk_cell BK234.out 8).trans rfl
                    have hcz45_9 : wc.cell? ⟨gb234, 9, none⟩ = some (.int .u64 a1_9) := (blk_cell BK234.out 9).trans rfl
                    have hcz45_10 : wc.cell? ⟨gb234, 10, none⟩ = some (.int .u64 a1_10) := (blk_cell BK234.out 10).trans rfl
                    have hcz45_11 : wc.cell? ⟨gb234, 11, none⟩ = some (.string a1_11) := (blk_cell BK234.out 11).trans rfl
                    have hcz45_12 : wc.cell? ⟨gb234, 12, none⟩ = some (.slice A1_12 l1_12.length c1_12) := (blk_cell BK234.out 12).trans rfl
                    have hfz45_0 := blk_frozen BK234.out 0
                    have hfz45_1 := blk_frozen BK234.out 1
                    have hfz45_2 := blk_frozen BK234.out 2
                    have hfz45_3 := blk_frozen BK234.out 3
                    have hfz45_4 := blk_frozen BK234.out 4
                    have hfz45_5 := blk_frozen BK234.out 5
                    have hfz45_6 := blk_frozen BK234.out 6
                    have hfz45_7 := blk_frozen BK234.out 7
                    have hfz45_8 := blk_frozen BK234.out 8
                    have hfz45_9 := blk_frozen BK234.out 9
                    have hfz45_10 := blk_frozen BK234.out 10
                    have hfz45_11 := blk_frozen BK234.out 11
                    have hfz45_12 := blk_frozen BK234.out 12
                    go_wp2
                    repeat (go_quiet (fail); try go_wp2)
                    go_meet
                    case rel => exact ⟨_, (true), (by first | rfl | (simp; done) | (simp [*]; done)), H', ⟨by have := HJ2.out; first | omega | exact Nat.le_refl _⟩, ⟨by (with_reducible repeat (first | refine blk_drewN ?_ _ | refine blk_drew ?_ | refine blk_alloc ?_ _)); exact BK233.out⟩, ⟨by (with_reducible repeat (first | refine blk_drewN ?_ _ | refine blk_drew ?_ | refine blk_alloc ?_ _)); exact BK234.out⟩, ⟨by repeat (first | (with_reducible first | exact HB.out | apply below_alloc | apply pw_below_drewN | apply below_drew1 | refine below_set ?_ GE233.out | refine below_set ?_ GE234.out) | exact HB.out)⟩⟩
                · rw [if_neg c34] at H
                  have c34b0 : (a0_9 == a1_9) = false := beq_eq_false_iff_ne.mpr c34
                  have c34b1 : (a0_9 != a1_9) = true := bne_iff_ne.mpr c34
                  have H' := Aside0.mk H
                  clear H
                  have hnb46 := NB233_234.out
                  have hnc46 := NB234_233.out
                  have hcz47_0 : wc.cell? ⟨gb233, 0, none⟩ = some (.int .i64 a0_0) := (blk_cell BK233.out 0).trans rfl
                  have hcz47_1 : wc.cell? ⟨gb233, 1, none⟩ = some (.int .u64 a0_1) := (blk_cell BK233.out 1).trans rfl
                  have hcz47_2 : wc.cell? ⟨gb233, 2, none⟩ = some (.int .u64 a0_2) := (blk_cell BK233.out 2).trans rfl
                  have hcz47_3 : wc.cell? ⟨gb233, 3, none⟩ = some (.int .u64 a0_3) := (blk_cell BK233.out 3).trans rfl
                  have hcz47_4 : wc.cell? ⟨gb233, 4, none⟩ = some (.string a0_4) := (blk_cell BK233.out 4).trans rfl
                  have hcz47_5 : wc.cell? ⟨gb233, 5, none⟩ = some (.string a0_5) := (blk_cell BK233.out 5).trans rfl
                  have hcz47_6 : wc.cell? ⟨gb233, 6, none⟩ = some (.int .u64 a0_6) := (blk_cell BK233.out 6).trans rfl
                  have hcz47_7 : wc.cell? ⟨gb233, 7, none⟩ = some (.int .u64 a0_7) := (blk_cell BK233.out 7).trans rfl
                  have hcz47_8 : wc.cell? ⟨gb233, 8, none⟩ = some (.string a0_8) := (blk_cell BK233.out 8).trans rfl
                  have hcz47_9 : wc.cell? ⟨gb233, 9, none⟩ = some (.int .u64 a0_9) := (blk_cell BK233.out 9).trans rfl
                  have hcz47_10 : wc.cell? ⟨gb233, 10, none⟩ = some (.int .u64 a0_10) := (blk_cell BK233.out 10).trans rfl
                  have hcz47_11 : wc.cell? ⟨gb233, 11, none⟩ = some (.string a0_11) := (blk_cell BK233.out 11).trans rfl
                  have hcz47_12 : wc.cell? ⟨gb233, 12, none⟩ = some (.slice A0_12 l0_12.length c0_12) := (blk_cell BK233.out 12).trans rfl
                  have hfz47_0 := blk_frozen BK233.out 0
                  have hfz47_1 := blk_frozen BK233.out 1
                  have hfz47_2 := blk_frozen BK233.out 2
                  have hfz47_3 := blk_frozen BK233.out 3
                  have hfz47_4 := blk_frozen BK233.out 4
                  have hfz47_5 := blk_frozen BK233.out 5
                  have hfz47_6 := blk_frozen BK233.out 6
                  have hfz47_7 := blk_frozen BK233.out 7
                  have hfz47_8 := blk_frozen BK233.out 8
                  have hfz47_9 := blk_frozen BK233.out 9
                  have hfz47_10 := blk_frozen BK233.out 10
                  have hfz47_11 := blk_frozen BK233.out 11
                  have hfz47_12 := blk_frozen BK233.out 12
                  have hcz48_0 : wc.cell? ⟨gb234, 0, none⟩ = some (.int .i64 a1_0) := (blk_cell BK234.out 0).trans rfl
                  have hcz48_1 : wc.cell? ⟨gb234, 1, none⟩ = some (.int .u64 a1_1) := (blk_cell BK234.out 1).trans rfl
                  have hcz48_2 : wc.cell? ⟨gb234, 2, none⟩ = some (.int .u64 a1_2) := (blk_cell BK234.out 2).trans rfl
                  have hcz48_3 : wc.cell? ⟨gb234, 3, none⟩ = some (.int .u64 a1_3) := (blk_cell BK234.out 3).trans rfl
                  have hcz48_4 : wc.cell? ⟨gb234, 4, none⟩ = some (.string a1_4) := (blk_cell BK234.out 4).trans rfl
                  have hcz48_5 : wc.cell? ⟨gb234, 5, none⟩ = some (.string a1_5) := (blk_cell BK234.out 5).trans rfl
                  have hcz48_6 : wc.cell? ⟨gb234, 6, none⟩ = some (.int .u64 a1_6) := (blk_cell BK234.out 6).trans rfl
                  have hcz48_7 : wc.cell? ⟨gb234, 7, none⟩ = some (.int .u64 a1_7) := (blk_cell BK234.out 7).trans rfl
                  have hcz48_8 : wc.cell? ⟨gb234, 8, none⟩ = some (.string a1_8) := (blk_cell BK234.out 8).trans rfl
                  have hcz48_9 : wc.cell? ⟨gb234, 9, none⟩ = some (.int .u64 a1_9) := (blk_cell BK234.out 9).trans rfl
                  have hcz48_10 : wc.cell? ⟨gb234, 10, none⟩ = some (.int .u64 a1_10) := (blk_cell BK234.out 10).trans rfl
                  have hcz48_11 : wc.cell? ⟨gb234, 11, none⟩ = some (.string a1_11) := (blk_cell BK234.out 11).trans rfl
                  have hcz48_12 : wc.cell? ⟨gb234, 12, none⟩ = some (.slice A1_12 l1_12.length c1_12) := (blk_cell BK234.out 12).trans rfl
                  have hfz48_0 := blk_frozen BK234.out 0
                  have hfz48_1 := blk_frozen BK234.out 1
                  have hfz48_2 := blk_frozen BK234.out 2
                  have hfz48_3 := blk_frozen BK234.out 3
                  have hfz48_4 := blk_frozen BK234.out 4
                  have hfz48_5 := blk_frozen BK234.out 5
                  have hfz48_6 := blk_frozen BK234.out 6
                  have hfz48_7 := blk_frozen BK234.out 7
                  have hfz48_8 := blk_frozen BK234.out 8
                  have hfz48_9 := blk_frozen BK234.out 9
                  have hfz48_10 := blk_frozen BK234.out 10
                  have hfz48_11 := blk_frozen BK234.out 11
                  have hfz48_12 := blk_frozen BK234.out 12
                  go_wp2
                  repeat (go_quiet (fail); try go_wp2)
                  go_meet
                  case rel => exact ⟨_, (true), (by first | rfl | (simp; done) | (simp [*]; done)), H', ⟨by have := HJ2.out; first | omega | exact Nat.le_refl _⟩, ⟨by (with_reducible repeat (first | refine blk_drewN ?_ _ | refine blk_drew ?_ | refine blk_alloc ?_ _)); exact BK233.out⟩, ⟨by (with_reducible repeat (first | refine blk_drewN ?_ _ | refine blk_drew ?_ | refine blk_alloc ?_ _)); exact BK234.out⟩, ⟨by repeat (first | (with_reducible first | exact HB.out | apply below_alloc | apply pw_below_drewN | apply below_drew1 | refine below_set ?_ GE233.out | refine below_set ?_ GE234.out) | exact HB.out)⟩⟩
              · rw [if_neg c33] at H
                have c33b0 : (a0_8.toList == a1_8.toList) = false := beq_eq_false_iff_ne.mpr c33
                have c33b1 : (a0_8.toList != a1_8.toList) = true := bne_iff_ne.mpr c33
                have H' := Aside0.mk H
                clear H
                have hnb49 := NB233_234.out
                have hnc49 := NB234_233.out
                have hcz50_0 : wc.cell? ⟨gb233, 0, none⟩ = some (.int .i64 a0_0) := (blk_cell BK233.out 0).trans rfl
                have hcz50_1 : wc.cell? ⟨gb233, 1, none⟩ = some (.int .u64 a0_1) := (blk_cell BK233.out 1).trans rfl
                have hcz50_2 : wc.cell? ⟨gb233, 2, none⟩ = some (.int .u64 a0_2) := (blk_cell BK233.out 2).trans rfl
                have hcz50_3 : wc.cell? ⟨gb233, 3, none⟩ = some (.int .u64 a0_3) := (blk_cell BK233.out 3).trans rfl
                have hcz50_4 : wc.cell? ⟨gb233, 4, none⟩ = some (.string a0_4) := (blk_cell BK233.out 4).trans rfl
                have hcz50_5 : wc.cell? ⟨gb233, 5, none⟩ = some (.string a0_5) := (blk_cell BK233.out 5).trans rfl
                have hcz50_6 : wc.cell? ⟨gb233, 6, none⟩ = some (.int .u64 a0_6) := (blk_cell BK233.out 6).trans rfl
                have hcz50_7 : wc.cell? ⟨gb233, 7, none⟩ = some (.int .u64 a0_7) := (blk_cell BK233.out 7).trans rfl
                have hcz50_8 : wc.cell? ⟨gb233, 8, none⟩ = some (.string a0_8) := (blk_cell BK233.out 8).trans rfl
                have hcz50_9 : wc.cell? ⟨gb233, 9, none⟩ = some (.int .u64 a0_9) := (blk_cell BK233.out 9).trans rfl
                have hcz50_10 : wc.cell? ⟨gb233, 10, none⟩ = some (.int .u64 a0_10) := (blk_cell BK233.out 10).trans rfl
                have hcz50_11 : wc.cell? ⟨gb233, 11, none⟩ = some (.string a0_11) := (blk_cell BK233.out 11).trans rfl
                have hcz50_12 : wc.cell? ⟨gb233, 12, none⟩ = some (.slice A0_12 l0_12.length c0_12) := (blk_cell BK233.out 12).trans rfl
                have hfz50_0 := blk_frozen BK233.out 0
                have hfz50_1 := blk_frozen BK233.out 1
                have hfz50_2 := blk_frozen BK233.out 2
                have hfz50_3 := blk_frozen BK233.out 3
                have hfz50_4 := blk_frozen BK233.out 4
                have hfz50_5 := blk_frozen BK233.out 5
                have hfz50_6 := blk_frozen BK233.out 6
                have hfz50_7 := blk_frozen BK233.out 7
                have hfz50_8 := blk_frozen BK233.out 8
                have hfz50_9 := blk_frozen BK233.out 9
                have hfz50_10 := blk_frozen BK233.out 10
                have hfz50_11 := blk_frozen BK233.out 11
                have hfz50_12 := blk_frozen BK233.out 12
                have hcz51_0 : wc.cell? ⟨gb234, 0, none⟩ = some (.int .i64 a1_0) := (blk_cell BK234.out 0).trans rfl
                have hcz51_1 : wc.cell? ⟨gb234, 1, none⟩ = some (.int .u64 a1_1) := (blk_cell BK234.out 1).trans rfl
                have hcz51_2 : wc.cell? ⟨gb234, 2, none⟩ = some (.int .u64 a1_2) := (blk_cell BK234.out 2).trans rfl
                have hcz51_3 : wc.cell? ⟨gb234, 3, none⟩ = some (.int .u64 a1_3) := (blk_cell BK234.out 3).trans rfl
                have hcz51_4 : wc.cell? ⟨gb234, 4, none⟩ = some (.string a1_4) := (blk_cell BK234.out 4).trans rfl
                have hcz51_5 : wc.cell? ⟨gb234, 5, none⟩ = some (.string a1_5) := (blk_cell BK234.out 5).trans rfl
                have hcz51_6 : wc.cell? ⟨gb234, 6, none⟩ = some (.int .u64 a1_6) := (blk_cell BK234.out 6).trans rfl
                have hcz51_7 : wc.cell? ⟨gb234, 7, none⟩ = some (.int .u64 a1_7) := (blk_cell BK234.out 7).trans rfl
                have hcz51_8 : wc.cell? ⟨gb234, 8, none⟩ = some (.string a1_8) := (blk_cell BK234.out 8).trans rfl
                have hcz51_9 : wc.cell? ⟨gb234, 9, none⟩ = some (.int .u64 a1_9) := (blk_cell BK234.out 9).trans rfl
                have hcz51_10 : wc.cell? ⟨gb234, 10, none⟩ = some (.int .u64 a1_10) := (blk_cell BK234.out 10).trans rfl
                have hcz51_11 : wc.cell? ⟨gb234, 11, none⟩ = some (.string a1_11) := (blk_cell BK234.out 11).trans rfl
                have hcz51_12 : wc.cell? ⟨gb234, 12, none⟩ = some (.slice A1_12 l1_12.length c1_12) := (blk_cell BK234.out 12).trans rfl
                have hfz51_0 := blk_frozen BK234.out 0
                have hfz51_1 := blk_frozen BK234.out 1
                have hfz51_2 := blk_frozen BK234.out 2
                have hfz51_3 := blk_frozen BK234.out 3
                have hfz51_4 := blk_frozen BK234.out 4
                have hfz51_5 := blk_frozen BK234.out 5
                have hfz51_6 := blk_frozen BK234.out 6
                have hfz51_7 := blk_frozen BK234.out 7
                have hfz51_8 := blk_frozen BK234.out 8
                have hfz51_9 := blk_frozen BK234.out 9
                have hfz51_10 := blk_frozen BK234.out 10
                have hfz51_11 := blk_frozen BK234.out 11
                have hfz51_12 := blk_frozen BK234.out 12
                go_wp2
                repeat (go_quiet (fail); try go_wp2)
                go_meet
                case rel => exact ⟨_, (true), (by first | rfl | (simp; done) | (simp [*]; done)), H', ⟨by have := HJ2.out; first | omega | exact Nat.le_refl _⟩, ⟨by (with_reducible repeat (first | refine blk_drewN ?_ _ | refine blk_drew ?_ | refine blk_alloc ?_ _)); exact BK233.out⟩, ⟨by (with_reducible repeat (first | refine blk_drewN ?_ _ | refine blk_drew ?_ | refine blk_alloc ?_ _)); exact BK234.out⟩, ⟨by repeat (first | (with_reducible first | exact HB.out | apply below_alloc | apply pw_below_drewN | apply below_drew1 | refine below_set ?_ GE233.out | refine below_set ?_ GE234.out) | exact HB.out)⟩⟩
            · rw [if_neg c32] at H
              have c32b0 : (a0_7 == a1_7) = false := beq_eq_false_iff_ne.mpr c32
              have c32b1 : (a0_7 != a1_7) = true := bne_iff_ne.mpr c32
              have H' := Aside0.mk H
              clear H
              have hnb52 := NB233_234.out
              have hnc52 := NB234_233.out
              have hcz53_0 : wc.cell? ⟨gb233, 0, none⟩ = some (.int .i64 a0_0) := (blk_cell BK233.out 0).trans rfl
              have hcz53_1 : wc.cell? ⟨gb233, 1, none⟩ = some (.int .u64 a0_1) := (blk_cell BK233.out 1).trans rfl
              have hcz53_2 : wc.cell? ⟨gb233, 2, none⟩ = some (.int .u64 a0_2) := (blk_cell BK233.out 2).trans rfl
              have hcz53_3 : wc.cell? ⟨gb233, 3, none⟩ = some (.int .u64 a0_3) := (blk_cell BK233.out 3).trans rfl
              have hcz53_4 : wc.cell? ⟨gb233, 4, none⟩ = some (.string a0_4) := (blk_cell BK233.out 4).trans rfl
              have hcz53_5 : wc.cell? ⟨gb233, 5, none⟩ = some (.string a0_5) := (blk_cell BK233.out 5).trans rfl
              have hcz53_6 : wc.cell? ⟨gb233, 6, none⟩ = some (.int .u64 a0_6) := (blk_cell BK233.out 6).trans rfl
              have hcz53_7 : wc.cell? ⟨gb233, 7, none⟩ = some (.int .u64 a0_7) := (blk_cell BK233.out 7).trans rfl
              have hcz53_8 : wc.cell? ⟨gb233, 8, none⟩ = some (.string a0_8) := (blk_cell BK233.out 8).trans rfl
              have hcz53_9 : wc.cell? ⟨gb233, 9, none⟩ = some (.int .u64 a0_9) := (blk_cell BK233.out 9).trans rfl
              have hcz53_10 : wc.cell? ⟨gb233, 10, none⟩ = some (.int .u64 a0_10) := (blk_cell BK233.out 10).trans rfl
              have hcz53_11 : wc.cell? ⟨gb233, 11, none⟩ = some (.string a0_11) := (blk_cell BK233.out 11).trans rfl
              have hcz53_12 : wc.cell? ⟨gb233, 12, none⟩ = some (.slice A0_12 l0_12.length c0_12) := (blk_cell BK233.out 12).trans rfl
              have hfz53_0 := blk_frozen BK233.out 0
              have hfz53_1 := blk_frozen BK233.out 1
              have hfz53_2 := blk_frozen BK233.out 2
              have hfz53_3 := blk_frozen BK233.out 3
              have hfz53_4 := blk_frozen BK233.out 4
              have hfz53_5 := blk_frozen BK233.out 5
              have hfz53_6 := blk_frozen BK233.out 6
              have hfz53_7 := blk_frozen BK233.out 7
              have hfz53_8 := blk_frozen BK233.out 8
              have hfz53_9 := blk_frozen BK233.out 9
              have hfz53_10 := blk_frozen BK233.out 10
              have hfz53_11 := blk_frozen BK233.out 11
              have hfz53_12 := blk_frozen BK233.out 12
              have hcz54_0 : wc.cell? ⟨gb234, 0, none⟩ = some (.int .i64 a1_0) := (blk_cell BK234.out 0).trans rfl
              have hcz54_1 : wc.cell? ⟨gb234, 1, none⟩ = some (.int .u64 a1_1) := (blk_cell BK234.out 1).trans rfl
              have hcz54_2 : wc.cell? ⟨gb234, 2, none⟩ = some (.int .u64 a1_2) := (blk_cell BK234.out 2).trans rfl
              have hcz54_3 : wc.cell? ⟨gb234, 3, none⟩ = some (.int .u64 a1_3) := (blk_cell BK234.out 3).trans rfl
              have hcz54_4 : wc.cell? ⟨gb234, 4, none⟩ = some (.string a1_4) := (blk_cell BK234.out 4).trans rfl
              have hcz54_5 : wc.cell? ⟨gb234, 5, none⟩ = some (.string a1_5) := (blk_cell BK234.out 5).trans rfl
              have hcz54_6 : wc.cell? ⟨gb234, 6, none⟩ = some (.int .u64 a1_6) := (blk_cell BK234.out 6).trans rfl
              have hcz54_7 : wc.cell? ⟨gb234, 7, none⟩ = some (.int .u64 a1_7) := (blk_cell BK234.out 7).trans rfl
              have hcz54_8 : wc.cell? ⟨gb234, 8, none⟩ = some (.string a1_8) := (blk_cell BK234.out 8).trans rfl
              have hcz54_9 : wc.cell? ⟨gb234, 9, none⟩ = some (.int .u64 a1_9) := (blk_cell BK234.out 9).trans rfl
              have hcz54_10 : wc.cell? ⟨gb234, 10, none⟩ = some (.int .u64 a1_10) := (blk_cell BK234.out 10).trans rfl
              have hcz54_11 : wc.cell? ⟨gb234, 11, none⟩ = some (.string a1_11) := (blk_cell BK234.out 11).trans rfl
              have hcz54_12 : wc.cell? ⟨gb234, 12, none⟩ = some (.slice A1_12 l1_12.length c1_12) := (blk_cell BK234.out 12).trans rfl
              have hfz54_0 := blk_frozen BK234.out 0
              have hfz54_1 := blk_frozen BK234.out 1
              have hfz54_2 := blk_frozen BK234.out 2
              have hfz54_3 := blk_frozen BK234.out 3
              have hfz54_4 := blk_frozen BK234.out 4
              have hfz54_5 := blk_frozen BK234.out 5
              have hfz54_6 := blk_frozen BK234.out 6
              have hfz54_7 := blk_frozen BK234.out 7
              have hfz54_8 := blk_frozen BK234.out 8
              have hfz54_9 := blk_frozen BK234.out 9
              have hfz54_10 := blk_frozen BK234.out 10
              have hfz54_11 := blk_frozen BK234.out 11
              have hfz54_12 := blk_frozen BK234.out 12
              go_wp2
              repeat (go_quiet (fail); try go_wp2)
              go_meet
              case rel => exact ⟨_, (true), (by first | rfl | (simp; done) | (simp [*]; done)), H', ⟨by have := HJ2.out; first | omega | exact Nat.le_refl _⟩, ⟨by (with_reducible repeat (first | refine blk_drewN ?_ _ | refine blk_drew ?_ | refine blk_alloc ?_ _)); exact BK233.out⟩, ⟨by (with_reducible repeat (first | refine blk_drewN ?_ _ | refine blk_drew ?_ | refine blk_alloc ?_ _)); exact BK234.out⟩, ⟨by repeat (first | (with_reducible first | exact HB.out | apply below_alloc | apply pw_below_drewN | apply below_drew1 | refine below_set ?_ GE233.out | refine below_set ?_ GE234.out) | exact HB.out)⟩⟩
          · rw [if_neg c31] at H
            have c31b0 : (a0_6 == a1_6) = false := beq_eq_false_iff_ne.mpr c31
            have c31b1 : (a0_6 != a1_6) = true := bne_iff_ne.mpr c31
            (first | rw [c31b0] | (simp only [i64_w, i32_w]; rw [c31b0]) | skip)
            have H' := Aside0.mk H
            clear H
            have hnb55 := NB233_234.out
            have hnc55 := NB234_233.out
            have hcz56_0 : wc.cell? ⟨gb233, 0, none⟩ = some (.int .i64 a0_0) := (blk_cell BK233.out 0).trans rfl
            have hcz56_1 : wc.cell? ⟨gb233, 1, none⟩ = some (.int .u64 a0_1) := (blk_cell BK233.out 1).trans rfl
            have hcz56_2 : wc.cell? ⟨gb233, 2, none⟩ = some (.int .u64 a0_2) := (blk_cell BK233.out 2).trans rfl
            have hcz56_3 : wc.cell? ⟨gb233, 3, none⟩ = some (.int .u64 a0_3) := (blk_cell BK233.out 3).trans rfl
            have hcz56_4 : wc.cell? ⟨gb233, 4, none⟩ = some (.string a0_4) := (blk_cell BK233.out 4).trans rfl
            have hcz56_5 : wc.cell? ⟨gb233, 5, none⟩ = some (.string a0_5) := (blk_cell BK233.out 5).trans rfl
            have hcz56_6 : wc.cell? ⟨gb233, 6, none⟩ = some (.int .u64 a0_6) := (blk_cell BK233.out 6).trans rfl
            have hcz56_7 : wc.cell? ⟨gb233, 7, none⟩ = some (.int .u64 a0_7) := (blk_cell BK233.out 7).trans rfl
            have hcz56_8 : wc.cell? ⟨gb233, 8, none⟩ = some (.string a0_8) := (blk_cell BK233.out 8).trans rfl
            have hcz56_9 : wc.cell? ⟨gb233, 9, none⟩ = some (.int .u64 a0_9) := (blk_cell BK233.out 9).trans rfl
            have hcz56_10 : wc.cell? ⟨gb233, 10, none⟩ = some (.int .u64 a0_10) := (blk_cell BK233.out 10).trans rfl
            have hcz56_11 : wc.cell? ⟨gb233, 11, none⟩ = some (.string a0_11) := (blk_cell BK233.out 11).trans rfl
            have hcz56_12 : wc.cell? ⟨gb233, 12, none⟩ = some (.slice A0_12 l0_12.length c0_12) := (blk_cell BK233.out 12).trans rfl
            have hfz56_0 := blk_frozen BK233.out 0
            have hfz56_1 := blk_frozen BK233.out 1
            have hfz56_2 := blk_frozen BK233.out 2
            have hfz56_3 := blk_frozen BK233.out 3
            have hfz56_4 := blk_frozen BK233.out 4
            have hfz56_5 := blk_frozen BK233.out 5
            have hfz56_6 := blk_frozen BK233.out 6
            have hfz56_7 := blk_frozen BK233.out 7
            have hfz56_8 := blk_frozen BK233.out 8
            have hfz56_9 := blk_frozen BK233.out 9
            have hfz56_10 := blk_frozen BK233.out 10
            have hfz56_11 := blk_frozen BK233.out 11
            have hfz56_12 := blk_frozen BK233.out 12
            have hcz57_0 : wc.cell? ⟨gb234, 0, none⟩ = some (.int .i64 a1_0) := (blk_cell BK234.out 0).trans rfl
            have hcz57_1 : wc.cell? ⟨gb234, 1, none⟩ = some (.int .u64 a1_1) := (blk_cell BK234.out 1).trans rfl
            have hcz57_2 : wc.cell? ⟨gb234, 2, none⟩ = some (.int .u64 a1_2) := (blk_cell BK234.out 2).trans rfl
            have hcz57_3 : wc.cell? ⟨gb234, 3, none⟩ = some (.int .u64 a1_3) := (blk_cell BK234.out 3).trans rfl
            have hcz57_4 : wc.cell? ⟨gb234, 4, none⟩ = some (.string a1_4) := (blk_cell BK234.out 4).trans rfl
            have hcz57_5 : wc.cell? ⟨gb234, 5, none⟩ = some (.string a1_5) := (blk_cell BK234.out 5).trans rfl
            have hcz57_6 : wc.cell? ⟨gb234, 6, none⟩ = some (.int .u64 a1_6) := (blk_cell BK234.out 6).trans rfl
            have hcz57_7 : wc.cell? ⟨gb234, 7, none⟩ = some (.int .u64 a1_7) := (blk_cell BK234.out 7).trans rfl
            have hcz57_8 : wc.cell? ⟨gb234, 8, none⟩ = some (.string a1_8) := (blk_cell BK234.out 8).trans rfl
            have hcz57_9 : wc.cell? ⟨gb234, 9, none⟩ = some (.int .u64 a1_9) := (blk_cell BK234.out 9).trans rfl
            have hcz57_10 : wc.cell? ⟨gb234, 10, none⟩ = some (.int .u64 a1_10) := (blk_cell BK234.out 10).trans rfl
            have hcz57_11 : wc.cell? ⟨gb234, 11, none⟩ = some (.string a1_11) := (blk_cell BK234.out 11).trans rfl
            have hcz57_12 : wc.cell? ⟨gb234, 12, none⟩ = some (.slice A1_12 l1_12.length c1_12) := (blk_cell BK234.out 12).trans rfl
            have hfz57_0 := blk_frozen BK234.out 0
            have hfz57_1 := blk_frozen BK234.out 1
            have hfz57_2 := blk_frozen BK234.out 2
            have hfz57_3 := blk_frozen BK234.out 3
            have hfz57_4 := blk_frozen BK234.out 4
            have hfz57_5 := blk_frozen BK234.out 5
            have hfz57_6 := blk_frozen BK234.out 6
            have hfz57_7 := blk_frozen BK234.out 7
            have hfz57_8 := blk_frozen BK234.out 8
            have hfz57_9 := blk_frozen BK234.out 9
            have hfz57_10 := blk_frozen BK234.out 10
            have hfz57_11 := blk_frozen BK234.out 11
            have hfz57_12 := blk_frozen BK234.out 12
            go_wp2
            repeat (go_quiet (fail); try go_wp2)
            go_meet
            case rel => exact ⟨_, (true), (by first | rfl | (simp; done) | (simp [*]; done)), H', ⟨by have := HJ2.out; first | omega | exact Nat.le_refl _⟩, ⟨by (with_reducible repeat (first | refine blk_drewN ?_ _ | refine blk_drew ?_ | refine blk_alloc ?_ _)); exact BK233.out⟩, ⟨by (with_reducible repeat (first | refine blk_drewN ?_ _ | refine blk_drew ?_ | refine blk_alloc ?_ _)); exact BK234.out⟩, ⟨by repeat (first | (with_reducible first | exact HB.out | apply below_alloc | apply pw_below_drewN | apply below_drew1 | refine below_set ?_ GE233.out | refine below_set ?_ GE234.out) | exact HB.out)⟩⟩
        case rest =>
          clear HC30
          try clear c1
          try clear c2
          try clear p2
          try clear c3
          try clear c4
          try clear c5
          try clear c29
          try clear c31
          try clear c31b0
          try clear c31b1
          try clear c32
          try clear c32b0
          try clear c32b1
          try clear c33
          try clear c33b0
          try clear c33b1
          try clear c34
          try clear c34b0
          try clear c34b1
          try clear c35
          try clear c35b0
          try clear c35b1
          try clear c36
          try clear c36b0
          try clear c36b1
          try clear c37
          try clear c40
          try clear c43
          try clear c46
          try clear c49
          try clear c52
          try clear c55
          try clear hcz38_0
          try clear hcz38_1
          try clear hcz38_10
          try clear hcz38_11
          try clear hcz38_12
          try clear hcz38_2
          try clear hcz38_3
          try clear hcz38_4
          try clear hcz38_5
          try clear hcz38_6
          try clear hcz38_7
          try clear hcz38_8
          try clear hcz38_9
          try clear hcz39_0
          try clear hcz39_1
          try clear hcz39_10
          try clear hcz39_11
          try clear hcz39_12
          try clear hcz39_2
          try clear hcz39_3
          try clear hcz39_4
          try clear hcz39_5
          try clear hcz39_6
          try clear hcz39_7
          try clear hcz39_8
          try clear hcz39_9
          try clear hcz41_0
          try clear hcz41_1
          try clear hcz41_10
          try clear hcz41_11
          try clear hcz41_12
          try clear hcz41_2
          try clear hcz41_3
          try clear hcz41_4
          try clear hcz41_5
          try clear hcz41_6
          try clear hcz41_7
          try clear hcz41_8
          try clear hcz41_9
          try clear hcz42_0
          try clear hcz42_1
          try clear hcz42_10
          try clear hcz42_11
          try clear hcz42_12
          try clear hcz42_2
          try clear hcz42_3
          try clear hcz42_4
          try clear hcz42_5
          try clear hcz42_6
          try clear hcz42_7
          try clear hcz42_8
          try clear hcz42_9
          try clear hcz44_0
          try clear hcz44_1
          try clear hcz44_10
          try clear hcz44_11
          try clear hcz44_12
          try clear hcz44_2
          try clear hcz44_3
          try clear hcz44_4
          try clear hcz44_5
          try clear hcz44_6
          try clear hcz44_7
          try clear hcz44_8
          try clear hcz44_9
          try clear hcz45_0
          try clear hcz45_1
          try clear hcz45_10
          try clear hcz45_11
          try clear hcz45_12
          try clear hcz45_2
          try clear hcz45_3
          try clear hcz45_4
          try clear hcz45_5
          try clear hcz45_6
          try clear hcz45_7
          try clear hcz45_8
          try clear hcz45_9
          try clear hcz47_0
          try clear hcz47_1
          try clear hcz47_10
          try clear hcz47_11
          try clear hcz47_12
          try clear hcz47_2
          try clear hcz47_3
          try clear hcz47_4
          try clear hcz47_5
          try clear hcz47_6
          try clear hcz47_7
          try clear hcz47_8
          try clear hcz47_9
          try clear hcz48_0
          try clear hcz48_1
          try clear hcz48_10
          try clear hcz48_11
          try clear hcz48_12
          try clear hcz48_2
          try clear hcz48_3
          try clear hcz48_4
          try clear hcz48_5
          try clear hcz48_6
          try clear hcz48_7
          try clear hcz48_8
          try clear hcz48_9
          try clear hcz50_0
          try clear hcz50_1
          try clear hcz50_10
          try clear hcz50_11
          try clear hcz50_12
          try clear hcz50_2
          try clear hcz50_3
          try clear hcz50_4
          try clear hcz50_5
          try clear hcz50_6
          try clear hcz50_7
          try clear hcz50_8
          try clear hcz50_9
          try clear hcz51_0
          try clear hcz51_1
          try clear hcz51_10
          try clear hcz51_11
          try clear hcz51_12
          try clear hcz51_2
          try clear hcz51_3
          try clear hcz51_4
          try clear hcz51_5
          try clear hcz51_6
          try clear hcz51_7
          try clear hcz51_8
          try clear hcz51_9
          try clear hcz53_0
          try clear hcz53_1
          try clear hcz53_10
          try clear hcz53_11
          try clear hcz53_12
          try clear hcz53_2
          try clear hcz53_3
          try clear hcz53_4
          try clear hcz53_5
          try clear hcz53_6
          try clear hcz53_7
          try clear hcz53_8
          try clear hcz53_9
          try clear hcz54_0
          try clear hcz54_1
          try clear hcz54_10
          try clear hcz54_11
          try clear hcz54_12
          try clear hcz54_2
          try clear hcz54_3
          try clear hcz54_4
          try clear hcz54_5
          try clear hcz54_6
          try clear hcz54_7
          try clear hcz54_8
          try clear hcz54_9
          try clear hcz56_0
          try clear hcz56_1
          try clear hcz56_10
          try clear hcz56_11
          try clear hcz56_12
          try clear hcz56_2
          try clear hcz56_3
          try clear hcz56_4
          try clear hcz56_5
          try clear hcz56_6
          try clear hcz56_7
          try clear hcz56_8
          try clear hcz56_9
          try clear hcz57_0
          try clear hcz57_1
          try clear hcz57_10
          try clear hcz57_11
          try clear hcz57_12
          try clear hcz57_2
          try clear hcz57_3
          try clear hcz57_4
          try clear hcz57_5
          try clear hcz57_6
          try clear hcz57_7
          try clear hcz57_8
          try clear hcz57_9
          try clear hfz18_5
          try clear hfz18_6
          try clear hfz18_7
          try clear hfz18_8
          try clear hfz18_9
          try clear hfz19_0
          try clear hfz19_1
          try clear hfz19_10
          try clear hfz19_11
          try clear hfz19_12
          try clear hfz19_2
          try clear hfz19_3
          try clear hfz19_4
          try clear hfz19_5
          try clear hfz19_6
          try clear hfz19_7
          try clear hfz19_8
          try clear hfz19_9
          try clear hfz21_0
          try clear hfz21_1
          try clear hfz21_10
          try clear hfz21_11
          try clear hfz21_12
          try clear hfz21_2
          try clear hfz21_3
          try clear hfz21_4
          try clear hfz21_5
          try clear hfz21_6
          try clear hfz21_7
          try clear hfz21_8
          try clear hfz21_9
          try clear hfz22_0
          try clear hfz22_1
          try clear hfz22_10
          try clear hfz22_11
          try clear hfz22_12
          try clear hfz22_2
          try clear hfz22_3
          try clear hfz22_4
          try clear hfz22_5
          try clear hfz22_6
          try clear hfz22_7
          try clear hfz22_8
          try clear hfz22_9
          try clear hfz24_0
          try clear hfz24_1
          try clear hfz24_10
          try clear hfz24_11
          try clear hfz24_12
          try clear hfz24_2
          try clear hfz24_3
          try clear hfz24_4
          try clear hfz24_5
          try clear hfz24_6
          try clear hfz24_7
          try clear hfz24_8
          try clear hfz24_9
          try clear hfz25_0
          try clear hfz25_1
          try clear hfz25_10
          try clear hfz25_11
          try clear hfz25_12
          try clear hfz25_2
          try clear hfz25_3
          try clear hfz25_4
          try clear hfz25_5
          try clear hfz25_6
          try clear hfz25_7
          try clear hfz25_8
          try clear hfz25_9
          try clear hfz27_0
          try clear hfz27_1
          try clear hfz27_10
          try clear hfz27_11
          try clear hfz27_12
          try clear hfz27_2
          try clear hfz27_3
          try clear hfz27_4
          try clear hfz27_5
          try clear hfz27_6
          try clear hfz27_7
          try clear hfz27_8
          try clear hfz27_9
          try clear hfz28_0
          try clear hfz28_1
          try clear hfz28_10
          try clear hfz28_11
          try clear hfz28_12
          try clear hfz28_2
          try clear hfz28_3
          try clear hfz28_4
          try clear hfz28_5
          try clear hfz28_6
          try clear hfz28_7
          try clear hfz28_8
          try clear hfz28_9
          try clear hfz38_0
          try clear hfz38_1
          try clear hfz38_10
          try clear hfz38_11
          try clear hfz38_12
          try clear hfz38_2
          try clear hfz38_3
          try clear hfz38_4
          try clear hfz38_5
          try clear hfz38_6
          try clear hfz38_7
          try clear hfz38_8
          try clear hfz38_9
          try clear hfz39_0
          try clear hfz39_1
          try clear hfz39_10
          try clear hfz39_11
          try clear hfz39_12
          try clear hfz39_2
          try clear hfz39_3
          try clear hfz39_4
          try clear hfz39_5
          try clear hfz39_6
          try clear hfz39_7
          try clear hfz39_8
          try clear hfz39_9
          try clear hfz41_0
          try clear hfz41_1
          try clear hfz41_10
          try clear hfz41_11
          try clear hfz41_12
          try clear hfz41_2
          try clear hfz41_3
          try clear hfz41_4
          try clear hfz41_5
          try clear hfz41_6
          try clear hfz41_7
          try clear hfz41_8
          try clear hfz41_9
          try clear hfz42_0
          try clear hfz42_1
          try clear hfz42_10
          try clear hfz42_11
          try clear hfz42_12
          try clear hfz42_2
          try clear hfz42_3
          try clear hfz42_4
          try clear hfz42_5
          try clear hfz42_6
          try clear hfz42_7
          try clear hfz42_8
          try clear hfz42_9
          try clear hfz44_0
          try clear hfz44_1
          try clear hfz44_10
          try clear hfz44_11
          try clear hfz44_12
          try clear hfz44_2
          try clear hfz44_3
          try clear hfz44_4
          try clear hfz44_5
          try clear hfz44_6
          try clear hfz44_7
          try clear hfz44_8
          try clear hfz44_9
          try clear hfz45_0
          try clear hfz45_1
          try clear hfz45_10
          try clear hfz45_11
          try clear hfz45_12
          try clear hfz45_2
          try clear hfz45_3
          try clear hfz45_4
          try clear hfz45_5
          try clear hfz45_6
          try clear hfz45_7
          try clear hfz45_8
          try clear hfz45_9
          try clear hfz47_0
          try clear hfz47_1
          try clear hfz47_10
          try clear hfz47_11
          try clear hfz47_12
          try clear hfz47_2
          try clear hfz47_3
          try clear hfz47_4
          try clear hfz47_5
          try clear hfz47_6
          try clear hfz47_7
          try clear hfz47_8
          try clear hfz47_9
          try clear hfz48_0
          try clear hfz48_1
          try clear hfz48_10
          try clear hfz48_11
          try clear hfz48_12
          try clear hfz48_2
          try clear hfz48_3
          try clear hfz48_4
          try clear hfz48_5
          try clear hfz48_6
          try clear hfz48_7
          try clear hfz48_8
          try clear hfz48_9
          try clear hfz50_0
          try clear hfz50_1
          try clear hfz50_10
          try clear hfz50_11
          try clear hfz50_12
          try clear hfz50_2
          try clear hfz50_3
          try clear hfz50_4
          try clear hfz50_5
          try clear hfz50_6
          try clear hfz50_7
          try clear hfz50_8
          try clear hfz50_9
          try clear hfz51_0
          try clear hfz51_1
          try clear hfz51_10
          try clear hfz51_11
          try clear hfz51_12
          try clear hfz51_2
          try clear hfz51_3
          try clear hfz51_4
          try clear hfz51_5
          try clear hfz51_6
          try clear hfz51_7
          try clear hfz51_8
          try clear hfz51_9
          try clear hfz53_0
          try clear hfz53_1
          try clear hfz53_10
          try clear hfz53_11
          try clear hfz53_12
          try clear hfz53_2
          try clear hfz53_3
          try clear hfz53_4
          try clear hfz53_5
          try clear hfz53_6
          try clear hfz53_7
          try clear hfz53_8
          try clear hfz53_9
          try clear hfz54_0
          try clear hfz54_1
          try clear hfz54_10
          try clear hfz54_11
          try clear hfz54_12
          try clear hfz54_2
          try clear hfz54_3
          try clear hfz54_4
          try clear hfz54_5
          try clear hfz54_6
          try clear hfz54_7
          try clear hfz54_8
          try clear hfz54_9
          try clear hfz56_0
          try clear hfz56_1
          try clear hfz56_10
          try clear hfz56_11
          try clear hfz56_12
          try clear hfz56_2
          try clear hfz56_3
          try clear hfz56_4
          try clear hfz56_5
          try clear hfz56_6
          try clear hfz56_7
          try clear hfz56_8
          try clear hfz56_9
          try clear hfz57_0
          try clear hfz57_1
          try clear hfz57_10
          try clear hfz57_11
          try clear hfz57_12
          try clear hfz57_2
          try clear hfz57_3
          try clear hfz57_4
          try clear hfz57_5
          try clear hfz57_6
          try clear hfz57_7
          try clear hfz57_8
          try clear hfz57_9
          obtain ⟨kq, x94_29, rfl, HA, HJ29, BK233, BK234, HB⟩ := hcut
          cases kq with
          | zero => exact absurd HA.out (by simp [demurralref08_Same.j1])
          | succ kj29 =>
            have H := HA.out
            clear HA
            simp only [demurralref08_Same.j1] at H
            by_cases c58 : x94_29 = true
            · subst c58
              have H1 : (some false) = some r := by rw [if_pos rfl] at H; exact H
              clear H
              have H := H1
              clear H1
              obtain rfl := Option.some.inj H
              go_wp2
              repeat (go_quiet (fail); try go_wp2)
              go_ret
              exact ⟨by first | rfl | (simp [errW_none, errW_some] <;> rfl) | (simp [*, errW_none, errW_some] <;> rfl), by repeat (first | (with_reducible first | exact HB.out | apply below_alloc | apply pw_below_drewN | apply below_drew1 | refine below_set ?_ GE233.out | refine below_set ?_ GE234.out) | exact HB.out)⟩
            · replace c58 := Bool.eq_false_iff.mpr c58
              subst c58
              have H1 : (demurralref08_Same.l0 kj29 (l0_12.length : Int) 0 a0_0 a0_1 a0_2 a0_3 a0_4 a0_5 a0_6 a0_7 a0_8 a0_9 a0_10 a0_11 l0_12 a1_0 a1_1 a1_2 a1_3 a1_4 a1_5 a1_6 a1_7 a1_8 a1_9 a1_10 a1_11 l1_12) = some r := by rw [if_neg (show ¬ (false = true) by decide)] at H; exact H
              clear H
              have H := H1
              clear H1
              have H' := Aside0.mk H
              clear H
              have hnb59 := NB233_234.out
              have hnc59 := NB234_233.out
              have hcz60_0 : wc.cell? ⟨gb233, 0, none⟩ = some (.int .i64 a0_0) := (blk_cell BK233.out 0).trans rfl
              have hcz60_1 : wc.cell? ⟨gb233, 1, none⟩ = some (.int .u64 a0_1) := (blk_cell BK233.out 1).trans rfl
              have hcz60_2 : wc.cell? ⟨gb233, 2, none⟩ = some (.int .u64 a0_2) := (blk_cell BK233.out 2).trans rfl
              have hcz60_3 : wc.cell? ⟨gb233, 3, none⟩ = some (.int .u64 a0_3) := (blk_cell BK233.out 3).trans rfl
              have hcz60_4 : wc.cell? ⟨gb233, 4, none⟩ = some (.string a0_4) := (blk_cell BK233.out 4).trans rfl
              have hcz60_5 : wc.cell? ⟨gb233, 5, none⟩ = some (.string a0_5) := (blk_cell BK233.out 5).trans rfl
              have hcz60_6 : wc.cell? ⟨gb233, 6, none⟩ = some (.int .u64 a0_6) := (blk_cell BK233.out 6).trans rfl
              have hcz60_7 : wc.cell? ⟨gb233, 7, none⟩ = some (.int .u64 a0_7) := (blk_cell BK233.out 7).trans rfl
              have hcz60_8 : wc.cell? ⟨gb233, 8, none⟩ = some (.string a0_8) := (blk_cell BK233.out 8).trans rfl
              have hcz60_9 : wc.cell? ⟨gb233, 9, none⟩ = some (.int .u64 a0_9) := (blk_cell BK233.out 9).trans rfl
              have hcz60_10 : wc.cell? ⟨gb233, 10, none⟩ = some (.int .u64 a0_10) := (blk_cell BK233.out 10).trans rfl
              have hcz60_11 : wc.cell? ⟨gb233, 11, none⟩ = some (.string a0_11) := (blk_cell BK233.out 11).trans rfl
              have hcz60_12 : wc.cell? ⟨gb233, 12, none⟩ = some (.slice A0_12 l0_12.length c0_12) := (blk_cell BK233.out 12).trans rfl
              have hfz60_0 := blk_frozen BK233.out 0
              have hfz60_1 := blk_frozen BK233.out 1
              have hfz60_2 := blk_frozen BK233.out 2
              have hfz60_3 := blk_frozen BK233.out 3
              have hfz60_4 := blk_frozen BK233.out 4
              have hfz60_5 := blk_frozen BK233.out 5
              have hfz60_6 := blk_frozen BK233.out 6
              have hfz60_7 := blk_frozen BK233.out 7
              have hfz60_8 := blk_frozen BK233.out 8
              have hfz60_9 := blk_frozen BK233.out 9
              have hfz60_10 := blk_frozen BK233.out 10
              have hfz60_11 := blk_frozen BK233.out 11
              have hfz60_12 := blk_frozen BK233.out 12
              go_wp2
              repeat (go_quiet (fail); try go_wp2)
              go_loopg [98] kj29 (fun kq v98 w' => ∃ (x98_3 : Int), v98 = .int .i64 x98_3 ∧ Aside0 (demurralref08_Same.l0 kq (l0_12.length : Int) x98_3 a0_0 a0_1 a0_2 a0_3 a0_4 a0_5 a0_6 a0_7 a0_8 a0_9 a0_10 a0_11 l0_12 a1_0 a1_1 a1_2 a1_3 a1_4 a1_5 a1_6 a1_7 a1_8 a1_9 a1_10 a1_11 l1_12 = some r) ∧ Aside0 (kq ≤ kj29) ∧ Aside0 (w'.heap[gb233]? = some (.cells #[.int .i64 a0_0, .int .u64 a0_1, .int .u64 a0_2, .int .u64 a0_3, .string a0_4, .string a0_5, .int .u64 a0_6, .int .u64 a0_7, .string a0_8, .int .u64 a0_9, .int .u64 a0_10, .string a0_11, (.slice A0_12 l0_12.length c0_12)] 25 (0, 0))) ∧ Aside0 (w'.heap[gb234]? = some (.cells #[.int .i64 a1_0, .int .u64 a1_1, .int .u64 a1_2, .int .u64 a1_3, .string a1_4, .string a1_5, .int .u64 a1_6, .int .u64 a1_7, .string a1_8, .int .u64 a1_9, .int .u64 a1_10, .string a1_11, (.slice A1_12 l1_12.length c1_12)] 25 (0, 0))) ∧ Aside0 (Below w.heap.size w w'))
              case atStart => exact ⟨(0), (by first | rfl | (simp; done) | (simp [*]; done)), H', ⟨Nat.le_refl _⟩, ⟨by (with_reducible repeat (first | refine blk_drewN ?_ _ | refine blk_drew ?_ | refine blk_alloc ?_ _)); exact BK233.out⟩, ⟨by (with_reducible repeat (first | refine blk_drewN ?_ _ | refine blk_drew ?_ | refine blk_alloc ?_ _)); exact BK234.out⟩, ⟨by repeat (first | (with_reducible first | exact HB.out | apply below_alloc | apply pw_below_drewN | apply below_drew1 | refine below_set ?_ GE233.out | refine below_set ?_ GE234.out) | exact HB.out)⟩⟩
              case round =>
                clear H'
                try clear c1
                try clear c2
                try clear p2
                try clear c3
                try clear c4
                try clear c5
                try clear c29
                try clear c31
                try clear c31b0
                try clear c31b1
                try clear c32
                try clear c32b0
                try clear c32b1
                try clear c33
                try clear c33b0
                try clear c33b1
                try clear c34
                try clear c34b0
                try clear c34b1
                try clear c35
                try clear c35b0
                try clear c35b1
                try clear c36
                try clear c36b0
                try clear c36b1
                try clear c37
                try clear c40
                try clear c43
                try clear c46
                try clear c49
                try clear c52
                try clear c55
                try clear c58
                try clear c59
                try clear hcz38_0
                try clear hcz38_1
                try clear hcz38_10
                try clear hcz38_11
                try clear hcz38_12
                try clear hcz38_2
                try clear hcz38_3
                try clear hcz38_4
                try clear hcz38_5
                try clear hcz38_6
                try clear hcz38_7
                try clear hcz38_8
                try clear hcz38_9
                try clear hcz39_0
                try clear hcz39_1
                try clear hcz39_10
                try clear hcz39_11
                try clear hcz39_12
                try clear hcz39_2
                try clear hcz39_3
                try clear hcz39_4
                try clear hcz39_5
                try clear hcz39_6
                try clear hcz39_7
                try clear hcz39_8
                try clear hcz39_9
                try clear hcz41_0
                try clear hcz41_1
                try clear hcz41_10
                try clear hcz41_11
                try clear hcz41_12
                try clear hcz41_2
                try clear hcz41_3
                try clear hcz41_4
                try clear hcz41_5
                try clear hcz41_6
                try clear hcz41_7
                try clear hcz41_8
                try clear hcz41_9
                try clear hcz42_0
                try clear hcz42_1
                try clear hcz42_10
                try clear hcz42_11
                try clear hcz42_12
                try clear hcz42_2
                try clear hcz42_3
                try clear hcz42_4
                try clear hcz42_5
                try clear hcz42_6
                try clear hcz42_7
                try clear hcz42_8
                try clear hcz42_9
                try clear hcz44_0
                try clear hcz44_1
                try clear hcz44_10
                try clear hcz44_11
                try clear hcz44_12
                try clear hcz44_2
                try clear hcz44_3
                try clear hcz44_4
                try clear hcz44_5
                try clear hcz44_6
                try clear hcz44_7
                try clear hcz44_8
                try clear hcz44_9
                try clear hcz45_0
                try clear hcz45_1
                try clear hcz45_10
                try clear hcz45_11
                try clear hcz45_12
                try clear hcz45_2
                try clear hcz45_3
                try clear hcz45_4
                try clear hcz45_5
                try clear hcz45_6
                try clear hcz45_7
                try clear hcz45_8
                try clear hcz45_9
                try clear hcz47_0
                try clear hcz47_1
                try clear hcz47_10
                try clear hcz47_11
                try clear hcz47_12
                try clear hcz47_2
                try clear hcz47_3
                try clear hcz47_4
                try clear hcz47_5
                try clear hcz47_6
                try clear hcz47_7
                try clear hcz47_8
                try clear hcz47_9
                try clear hcz48_0
                try clear hcz48_1
                try clear hcz48_10
                try clear hcz48_11
                try clear hcz48_12
                try clear hcz48_2
                try clear hcz48_3
                try clear hcz48_4
                try clear hcz48_5
                try clear hcz48_6
                try clear hcz48_7
                try clear hcz48_8
                try clear hcz48_9
                try clear hcz50_0
                try clear hcz50_1
                try clear hcz50_10
                try clear hcz50_11
                try clear hcz50_12
                try clear hcz50_2
                try clear hcz50_3
                try clear hcz50_4
                try clear hcz50_5
                try clear hcz50_6
                try clear hcz50_7
                try clear hcz50_8
                try clear hcz50_9
                try clear hcz51_0
                try clear hcz51_1
                try clear hcz51_10
                try clear hcz51_11
                try clear hcz51_12
                try clear hcz51_2
                try clear hcz51_3
                try clear hcz51_4
                try clear hcz51_5
                try clear hcz51_6
                try clear hcz51_7
                try clear hcz51_8
                try clear hcz51_9
                try clear hcz53_0
                try clear hcz53_1
                try clear hcz53_10
                try clear hcz53_11
                try clear hcz53_12
                try clear hcz53_2
                try clear hcz53_3
                try clear hcz53_4
                try clear hcz53_5
                try clear hcz53_6
                try clear hcz53_7
                try clear hcz53_8
                try clear hcz53_9
                try clear hcz54_0
                try clear hcz54_1
                try clear hcz54_10
                try clear hcz54_11
                try clear hcz54_12
                try clear hcz54_2
                try clear hcz54_3
                try clear hcz54_4
                try clear hcz54_5
                try clear hcz54_6
                try clear hcz54_7
                try clear hcz54_8
                try clear hcz54_9
                try clear hcz56_0
                try clear hcz56_1
                try clear hcz56_10
                try clear hcz56_11
                try clear hcz56_12
                try clear hcz56_2
                try clear hcz56_3
                try clear hcz56_4
                try clear hcz56_5
                try clear hcz56_6
                try clear hcz56_7
                try clear hcz56_8
                try clear hcz56_9
                try clear hcz57_0
                try clear hcz57_1
                try clear hcz57_10
                try clear hcz57_11
                try clear hcz57_12
                try clear hcz57_2
                try clear hcz57_3
                try clear hcz57_4
                try clear hcz57_5
                try clear hcz57_6
                try clear hcz57_7
                try clear hcz57_8
                try clear hcz57_9
                try clear hcz60_0
                try clear hcz60_1
                try clear hcz60_10
                try clear hcz60_11
                try clear hcz60_12
                try clear hcz60_2
                try clear hcz60_3
                try clear hcz60_4
                try clear hcz60_5
                try clear hcz60_6
                try clear hcz60_7
                try clear hcz60_8
                try clear hcz60_9
                try clear hfz18_5
                try clear hfz18_6
                try clear hfz18_7
                try clear hfz18_8
                try clear hfz18_9
                try clear hfz19_0
                try clear hfz19_1
                try clear hfz19_10
                try clear hfz19_11
                try clear hfz19_12
                try clear hfz19_2
                try clear hfz19_3
                try clear hfz19_4
                try clear hfz19_5
                try clear hfz19_6
                try clear hfz19_7
                try clear hfz19_8
                try clear hfz19_9
                try clear hfz21_0
                try clear hfz21_1
                try clear hfz21_10
                try clear hfz21_11
                try clear hfz21_12
                try clear hfz21_2
                try clear hfz21_3
                try clear hfz21_4
                try clear hfz21_5
                try clear hfz21_6
                try clear hfz21_7
                try clear hfz21_8
                try clear hfz21_9
                try clear hfz22_0
                try clear hfz22_1
                try clear hfz22_10
                try clear hfz22_11
                try clear hfz22_12
                try clear hfz22_2
                try clear hfz22_3
                try clear hfz22_4
                try clear hfz22_5
                try clear hfz22_6
                try clear hfz22_7
                try clear hfz22_8
                try clear hfz22_9
                try clear hfz24_0
                try clear hfz24_1
                try clear hfz24_10
                try clear hfz24_11
                try clear hfz24_12
                try clear hfz24_2
                try clear hfz24_3
                try clear hfz24_4
                try clear hfz24_5
                try clear hfz24_6
                try clear hfz24_7
                try clear hfz24_8
                try clear hfz24_9
                try clear hfz25_0
                try clear hfz25_1
                try clear hfz25_10
                try clear hfz25_11
                try clear hfz25_12
                try clear hfz25_2
                try clear hfz25_3
                try clear hfz25_4
                try clear hfz25_5
                try clear hfz25_6
                try clear hfz25_7
                try clear hfz25_8
                try clear hfz25_9
                try clear hfz27_0
                try clear hfz27_1
                try clear hfz27_10
                try clear hfz27_11
                try clear hfz27_12
                try clear hfz27_2
                try clear hfz27_3
                try clear hfz27_4
                try clear hfz27_5
                try clear hfz27_6
                try clear hfz27_7
                try clear hfz27_8
                try clear hfz27_9
                try clear hfz28_0
                try clear hfz28_1
                try clear hfz28_10
                try clear hfz28_11
                try clear hfz28_12
                try clear hfz28_2
                try clear hfz28_3
                try clear hfz28_4
                try clear hfz28_5
                try clear hfz28_6
                try clear hfz28_7
                try clear hfz28_8
                try clear hfz28_9
                try clear hfz38_0
                try clear hfz38_1
                try clear hfz38_10
                try clear hfz38_11
                try clear hfz38_12
                try clear hfz38_2
                try clear hfz38_3
                try clear hfz38_4
                try clear hfz38_5
                try clear hfz38_6
                try clear hfz38_7
                try clear hfz38_8
                try clear hfz38_9
                try clear hfz39_0
                try clear hfz39_1
                try clear hfz39_10
                try clear hfz39_11
                try clear hfz39_12
                try clear hfz39_2
                try clear hfz39_3
                try clear hfz39_4
                try clear hfz39_5
                try clear hfz39_6
                try clear hfz39_7
                try clear hfz39_8
                try clear hfz39_9
                try clear hfz41_0
                try clear hfz41_1
                try clear hfz41_10
                try clear hfz41_11
                try clear hfz41_12
                try clear hfz41_2
                try clear hfz41_3
                try clear hfz41_4
                try clear hfz41_5
                try clear hfz41_6
                try clear hfz41_7
                try clear hfz41_8
                try clear hfz41_9
                try clear hfz42_0
                try clear hfz42_1
                try clear hfz42_10
                try clear hfz42_11
                try clear hfz42_12
                try clear hfz42_2
                try clear hfz42_3
                try clear hfz42_4
                try clear hfz42_5
                try clear hfz42_6
                try clear hfz42_7
                try clear hfz42_8
                try clear hfz42_9
                try clear hfz44_0
                try clear hfz44_1
                try clear hfz44_10
                try clear hfz44_11
                try clear hfz44_12
                try clear hfz44_2
                try clear hfz44_3
                try clear hfz44_4
                try clear hfz44_5
                try clear hfz44_6
                try clear hfz44_7
                try clear hfz44_8
                try clear hfz44_9
                try clear hfz45_0
                try clear hfz45_1
                try clear hfz45_10
                try clear hfz45_11
                try clear hfz45_12
                try clear hfz45_2
                try clear hfz45_3
                try clear hfz45_4
                try clear hfz45_5
                try clear hfz45_6
                try clear hfz45_7
                try clear hfz45_8
                try clear hfz45_9
                try clear hfz47_0
                try clear hfz47_1
                try clear hfz47_10
                try clear hfz47_11
                try clear hfz47_12
                try clear hfz47_2
                try clear hfz47_3
                try clear hfz47_4
                try clear hfz47_5
                try clear hfz47_6
                try clear hfz47_7
                try clear hfz47_8
                try clear hfz47_9
                try clear hfz48_0
                try clear hfz48_1
                try clear hfz48_10
                try clear hfz48_11
                try clear hfz48_12
                try clear hfz48_2
                try clear hfz48_3
                try clear hfz48_4
                try clear hfz48_5
                try clear hfz48_6
                try clear hfz48_7
                try clear hfz48_8
                try clear hfz48_9
                try clear hfz50_0
                try clear hfz50_1
                try clear hfz50_10
                try clear hfz50_11
                try clear hfz50_12
                try clear hfz50_2
                try clear hfz50_3
                try clear hfz50_4
                try clear hfz50_5
                try clear hfz50_6
                try clear hfz50_7
                try clear hfz50_8
                try clear hfz50_9
                try clear hfz51_0
                try clear hfz51_1
                try clear hfz51_10
                try clear hfz51_11
                try clear hfz51_12
                try clear hfz51_2
                try clear hfz51_3
                try clear hfz51_4
                try clear hfz51_5
                try clear hfz51_6
                try clear hfz51_7
                try clear hfz51_8
                try clear hfz51_9
                try clear hfz53_0
                try clear hfz53_1
                try clear hfz53_10
                try clear hfz53_11
                try clear hfz53_12
                try clear hfz53_2
                try clear hfz53_3
                try clear hfz53_4
                try clear hfz53_5
                try clear hfz53_6
                try clear hfz53_7
                try clear hfz53_8
                try clear hfz53_9
                try clear hfz54_0
                try clear hfz54_1
                try clear hfz54_10
                try clear hfz54_11
                try clear hfz54_12
                try clear hfz54_2
                try clear hfz54_3
                try clear hfz54_4
                try clear hfz54_5
                try clear hfz54_6
                try clear hfz54_7
                try clear hfz54_8
                try clear hfz54_9
                try clear hfz56_0
                try clear hfz56_1
                try clear hfz56_10
                try clear hfz56_11
                try clear hfz56_12
                try clear hfz56_2
                try clear hfz56_3
                try clear hfz56_4
                try clear hfz56_5
                try clear hfz56_6
                try clear hfz56_7
                try clear hfz56_8
                try clear hfz56_9
                try clear hfz57_0
                try clear hfz57_1
                try clear hfz57_10
                try clear hfz57_11
                try clear hfz57_12
                try clear hfz57_2
                try clear hfz57_3
                try clear hfz57_4
                try clear hfz57_5
                try clear hfz57_6
                try clear hfz57_7
                try clear hfz57_8
                try clear hfz57_9
                try clear hfz60_0
                try clear hfz60_1
                try clear hfz60_10
                try clear hfz60_11
                try clear hfz60_12
                try clear hfz60_2
                try clear hfz60_3
                try clear hfz60_4
                try clear hfz60_5
                try clear hfz60_6
                try clear hfz60_7
                try clear hfz60_8
                try clear hfz60_9
                try clear p2
                obtain ⟨x98_3, rfl, HA, HK3, BK233, BK234, HB⟩ := hrel
                cases gk with
                | zero => exact absurd HA.out (by simp [demurralref08_Same.l0])
                | succ k3 =>
                  have H := HA.out
                  clear HA
                  simp only [demurralref08_Same.l0] at H
                  by_cases c61 : x98_3 < (l0_12.length : Int)
                  · rw [if_pos c61] at H
                    have c61b0 : decide (x98_3 < (l0_12.length : Int)) = true := decide_eq_true c61
                    clear c61
                    by_cases c62 : 0 ≤ x98_3
                    · rw [if_pos c62] at H
                      have c62b0 : decide (0 ≤ x98_3) = true := decide_eq_true c62
                      clear c62
                      by_cases c63 : x98_3 < (l0_12.length : Int)
                      · rw [if_pos c63] at H
                        have c63b0 : decide (x98_3 < (l0_12.length : Int)) = true := decide_eq_true c63
                        clear c63
                        by_cases c64 : x98_3 < (l1_12.length : Int)
                        · rw [if_pos c64] at H
                          have c64b0 : decide (x98_3 < (l1_12.length : Int)) = true := decide_eq_true c64
                          clear c64
                          by_cases c65 : (rdOf ByteArray.empty l0_12 x98_3).toList = (rdOf ByteArray.empty l1_12 x98_3).toList
                          · rw [if_pos c65] at H
                            have c65b0 : ((rdOf ByteArray.empty l0_12 x98_3).toList == (rdOf ByteArray.empty l1_12 x98_3).toList) = true := beq_iff_eq.mpr c65
                            have c65b1 : ((rdOf ByteArray.empty l0_12 x98_3).toList != (rdOf ByteArray.empty l1_12 x98_3).toList) = false := bne_eq_false_iff_eq.mpr c65
                            clear c65
                            have H' := Aside0.mk H
                            clear H
                            have hnb66 := NB233_234.out
                            have hnc66 := NB234_233.out
                            have hcz67_0 : wr.cell? ⟨gb233, 0, none⟩ = some (.int .i64 a0_0) := (blk_cell BK233.out 0).trans rfl
                            have hcz67_1 : wr.cell? ⟨gb233, 1, none⟩ = some (.int .u64 a0_1) := (blk_cell BK233.out 1).trans rfl
                            have hcz67_2 : wr.cell? ⟨gb233, 2, none⟩ = some (.int .u64 a0_2) := (blk_cell BK233.out 2).trans rfl
                            have hcz67_3 : wr.cell? ⟨gb233, 3, none⟩ = some (.int .u64 a0_3) := (blk_cell BK233.out 3).trans rfl
                            have hcz67_4 : wr.cell? ⟨gb233, 4, none⟩ = some (.string a0_4) := (blk_cell BK233.out 4).trans rfl
                            have hcz67_5 : wr.cell? ⟨gb233, 5, none⟩ = some (.string a0_5) := (blk_cell BK233.out 5).trans rfl
                            have hcz67_6 : wr.cell? ⟨gb233, 6, none⟩ = some (.int .u64 a0_6) := (blk_cell BK233.out 6).trans rfl
                            have hcz67_7 : wr.cell? ⟨gb233, 7, none⟩ = some (.int .u64 a0_7) := (blk_cell BK233.out 7).trans rfl
                            have hcz67_8 : wr.cell? ⟨gb233, 8, none⟩ = some (.string a0_8) := (blk_cell BK233.out 8).trans rfl
                            have hcz67_9 : wr.cell? ⟨gb233, 9, none⟩ = some (.int .u64 a0_9) := (blk_cell BK233.out 9).trans rfl
                            have hcz67_10 : wr.cell? ⟨gb233, 10, none⟩ = some (.int .u64 a0_10) := (blk_cell BK233.out 10).trans rfl
                            have hcz67_11 : wr.cell? ⟨gb233, 11, none⟩ = some (.string a0_11) := (blk_cell BK233.out 11).trans rfl
                            have hcz67_12 : wr.cell? ⟨gb233, 12, none⟩ = some (.slice A0_12 l0_12.length c0_12) := (blk_cell BK233.out 12).trans rfl
                            have hfz67_0 := blk_frozen BK233.out 0
                            have hfz67_1 := blk_frozen BK233.out 1
                            have hfz67_2 := blk_frozen BK233.out 2
                            have hfz67_3 := blk_frozen BK233.out 3
                            have hfz67_4 := blk_frozen BK233.out 4
                            have hfz67_5 := blk_frozen BK233.out 5
                            have hfz67_6 := blk_frozen BK233.out 6
                            have hfz67_7 := blk_frozen BK233.out 7
                            have hfz67_8 := blk_frozen BK233.out 8
                            have hfz67_9 := blk_frozen BK233.out 9
                            have hfz67_10 := blk_frozen BK233.out 10
                            have hfz67_11 := blk_frozen BK233.out 11
                            have hfz67_12 := blk_frozen BK233.out 12
                            have p235 : 0 ≤ (x98_3 : Int) := of_decide_eq_true (by first | (with_reducible assumption) | assumption)
                            have q235 : x98_3 < (l0_12.length : Int) := of_decide_eq_true (by first | (with_reducible assumption) | assumption)
                            obtain ⟨ad235, e235, hx235_0⟩ := Kd.at_string HR0_12.out x98_3 p235 q235
                            cases e235
                            replace hx235_0 := (HB.out.cell (World.block_lt_of_cell? w _ hx235_0)).trans hx235_0
                            replace p235 := eq_true p235
                            replace q235 := eq_true q235
                            have hcz68_0 : wr.cell? ⟨gb234, 0, none⟩ = some (.int .i64 a1_0) := (blk_cell BK234.out 0).trans rfl
                            have hcz68_1 : wr.cell? ⟨gb234, 1, none⟩ = some (.int .u64 a1_1) := (blk_cell BK234.out 1).trans rfl
                            have hcz68_2 : wr.cell? ⟨gb234, 2, none⟩ = some (.int .u64 a1_2) := (blk_cell BK234.out 2).trans rfl
                            have hcz68_3 : wr.cell? ⟨gb234, 3, none⟩ = some (.int .u64 a1_3) := (blk_cell BK234.out 3).trans rfl
                            have hcz68_4 : wr.cell? ⟨gb234, 4, none⟩ = some (.string a1_4) := (blk_cell BK234.out 4).trans rfl
                            have hcz68_5 : wr.cell? ⟨gb234, 5, none⟩ = some (.string a1_5) := (blk_cell BK234.out 5).trans rfl
                            have hcz68_6 : wr.cell? ⟨gb234, 6, none⟩ = some (.int .u64 a1_6) := (blk_cell BK234.out 6).trans rfl
                            have hcz68_7 : wr.cell? ⟨gb234, 7, none⟩ = some (.int .u64 a1_7) := (blk_cell BK234.out 7).trans rfl
                            have hcz68_8 : wr.cell? ⟨gb234, 8, none⟩ = some (.string a1_8) := (blk_cell BK234.out 8).trans rfl
                            have hcz68_9 : wr.cell? ⟨gb234, 9, none⟩ = some (.int .u64 a1_9) := (blk_cell BK234.out 9).trans rfl
                            have hcz68_10 : wr.cell? ⟨gb234, 10, none⟩ = some (.int .u64 a1_10) := (blk_cell BK234.out 10).trans rfl
                            have hcz68_11 : wr.cell? ⟨gb234, 11, none⟩ = some (.string a1_11) := (blk_cell BK234.out 11).trans rfl
                            have hcz68_12 : wr.cell? ⟨gb234, 12, none⟩ = some (.slice A1_12 l1_12.length c1_12) := (blk_cell BK234.out 12).trans rfl
                            have hfz68_0 := blk_frozen BK234.out 0
                            have hfz68_1 := blk_frozen BK234.out 1
                            have hfz68_2 := blk_frozen BK234.out 2
                            have hfz68_3 := blk_frozen BK234.out 3
                            have hfz68_4 := blk_frozen BK234.out 4
                            have hfz68_5 := blk_frozen BK234.out 5
                            have hfz68_6 := blk_frozen BK234.out 6
                            have hfz68_7 := blk_frozen BK234.out 7
                            have hfz68_8 := blk_frozen BK234.out 8
                            have hfz68_9 := blk_frozen BK234.out 9
                            have hfz68_10 := blk_frozen BK234.out 10
                            have hfz68_11 := blk_frozen BK234.out 11
                            have hfz68_12 := blk_frozen BK234.out 12
                            have p236 : 0 ≤ (x98_3 : Int) := of_decide_eq_true (by first | (with_reducible assumption) | assumption)
                            have q236 : x98_3 < (l1_12.length : Int) := of_decide_eq_true (by first | (with_reducible assumption) | assumption)
                            obtain ⟨ad236, e236, hx236_0⟩ := Kd.at_string HR1_12.out x98_3 p236 q236
                            cases e236
                            replace hx236_0 := (HB.out.cell (World.block_lt_of_cell? w _ hx236_0)).trans hx236_0
                            replace p236 := eq_true p236
                            replace q236 := eq_true q236
                            go_wp2
                            repeat (go_quiet (fail); try go_wp2)
                            go_roundg k3
                            case measure => have := HJ2.out; have := HJ29.out; have := HK3.out; omega
                            case rel => exact ⟨(wrap64 (x98_3 + 1)), (by first | rfl | (simp; done) | (simp [*]; done)), H', ⟨by have := HJ2.out; have := HJ29.out; have := HK3.out; omega⟩, ⟨by (with_reducible repeat (first | refine blk_drewN ?_ _ | refine blk_drew ?_ | refine blk_alloc ?_ _)); exact BK233.out⟩, ⟨by (with_reducible repeat (first | refine blk_drewN ?_ _ | refine blk_drew ?_ | refine blk_alloc ?_ _)); exact BK234.out⟩, ⟨by repeat (first | (with_reducible first | exact HB.out | apply below_alloc | apply pw_below_drewN | apply below_drew1 | refine below_set ?_ GE233.out | refine below_set ?_ GE234.out) | exact HB.out)⟩⟩
                          · rw [if_neg c65] at H
                            have c65b0 : ((rdOf ByteArray.empty l0_12 x98_3).toList == (rdOf ByteArray.empty l1_12 x98_3).toList) = false := beq_eq_false_iff_ne.mpr c65
                            have c65b1 : ((rdOf ByteArray.empty l0_12 x98_3).toList != (rdOf ByteArray.empty l1_12 x98_3).toList) = true := bne_iff_ne.mpr c65
                            obtain rfl := Option.some.inj H
                            have hnb69 := NB233_234.out
                            have hnc69 := NB234_233.out
                            have hcz70_0 : wr.cell? ⟨gb233, 0, none⟩ = some (.int .i64 a0_0) := (blk_cell BK233.out 0).trans rfl
                            have hcz70_1 : wr.cell? ⟨gb233, 1, none⟩ = some (.int .u64 a0_1) := (blk_cell BK233.out 1).trans rfl
                            have hcz70_2 : wr.cell? ⟨gb233, 2, none⟩ = some (.int .u64 a0_2) := (blk_cell BK233.out 2).trans rfl
                            have hcz70_3 : wr.cell? ⟨gb233, 3, none⟩ = some (.int .u64 a0_3) := (blk_cell BK233.out 3).trans rfl
                            have hcz70_4 : wr.cell? ⟨gb233, 4, none⟩ = some (.string a0_4) := (blk_cell BK233.out 4).trans rfl
                            have hcz70_5 : wr.cell? ⟨gb233, 5, none⟩ = some (.string a0_5) := (blk_cell BK233.out 5).trans rfl
                            have hcz70_6 : wr.cell? ⟨gb233, 6, none⟩ = some (.int .u64 a0_6) := (blk_cell BK233.out 6).trans rfl
                            have hcz70_7 : wr.cell? ⟨gb233, 7, none⟩ = some (.int .u64 a0_7) := (blk_cell BK233.out 7).trans rfl
                            have hcz70_8 : wr.cell? ⟨gb233, 8, none⟩ = some (.string a0_8) := (blk_cell BK233.out 8).trans rfl
                            have hcz70_9 : wr.cell? ⟨gb233, 9, none⟩ = some (.int .u64 a0_9) := (blk_cell BK233.out 9).trans rfl
                            have hcz70_10 : wr.cell? ⟨gb233, 10, none⟩ = some (.int .u64 a0_10) := (blk_cell BK233.out 10).trans rfl
                            have hcz70_11 : wr.cell? ⟨gb233, 11, none⟩ = some (.string a0_11) := (blk_cell BK233.out 11).trans rfl
                            have hcz70_12 : wr.cell? ⟨gb233, 12, none⟩ = some (.slice A0_12 l0_12.length c0_12) := (blk_cell BK233.out 12).trans rfl
                            have hfz70_0 := blk_frozen BK233.out 0
                            have hfz70_1 := blk_frozen BK233.out 1
                            have hfz70_2 := blk_frozen BK233.out 2
                            have hfz70_3 := blk_frozen BK233.out 3
                            have hfz70_4 := blk_frozen BK233.out 4
                            have hfz70_5 := blk_frozen BK233.out 5
                            have hfz70_6 := blk_frozen BK233.out 6
                            have hfz70_7 := blk_frozen BK233.out 7
                            have hfz70_8 := blk_frozen BK233.out 8
                            have hfz70_9 := blk_frozen BK233.out 9
                            have hfz70_10 := blk_frozen BK233.out 10
                            have hfz70_11 := blk_frozen BK233.out 11
                            have hfz70_12 := blk_frozen BK233.out 12
                            have p235 : 0 ≤ (x98_3 : Int) := of_decide_eq_true (by first | (with_reducible assumption) | assumption)
                            have q235 : x98_3 < (l0_12.length : Int) := of_decide_eq_true (by first | (with_reducible assumption) | assumption)
                            obtain ⟨ad235, e235, hx235_0⟩ := Kd.at_string HR0_12.out x98_3 p235 q235
                            cases e235
                            replace hx235_0 := (HB.out.cell (World.block_lt_of_cell? w _ hx235_0)).trans hx235_0
                            replace p235 := eq_true p235
                            replace q235 := eq_true q235
                            have hcz71_0 : wr.cell? ⟨gb234, 0, none⟩ = some (.int .i64 a1_0) := (blk_cell BK234.out 0).trans rfl
                            have hcz71_1 : wr.cell? ⟨gb234, 1, none⟩ = some (.int .u64 a1_1) := (blk_cell BK234.out 1).trans rfl
                            have hcz71_2 : wr.cell? ⟨gb234, 2, none⟩ = some (.int .u64 a1_2) := (blk_cell BK234.out 2).trans rfl
                            have hcz71_3 : wr.cell? ⟨gb234, 3, none⟩ = some (.int .u64 a1_3) := (blk_cell BK234.out 3).trans rfl
                            have hcz71_4 : wr.cell? ⟨gb234, 4, none⟩ = some (.string a1_4) := (blk_cell BK234.out 4).trans rfl
                            have hcz71_5 : wr.cell? ⟨gb234, 5, none⟩ = some (.string a1_5) := (blk_cell BK234.out 5).trans rfl
                            have hcz71_6 : wr.cell? ⟨gb234, 6, none⟩ = some (.int .u64 a1_6) := (blk_cell BK234.out 6).trans rfl
                            have hcz71_7 : wr.cell? ⟨gb234, 7, none⟩ = some (.int .u64 a1_7) := (blk_cell BK234.out 7).trans rfl
                            have hcz71_8 : wr.cell? ⟨gb234, 8, none⟩ = some (.string a1_8) := (blk_cell BK234.out 8).trans rfl
                            have hcz71_9 : wr.cell? ⟨gb234, 9, none⟩ = some (.int .u64 a1_9) := (blk_cell BK234.out 9).trans rfl
                            have hcz71_10 : wr.cell? ⟨gb234, 10, none⟩ = some (.int .u64 a1_10) := (blk_cell BK234.out 10).trans rfl
                            have hcz71_11 : wr.cell? ⟨gb234, 11, none⟩ = some (.string a1_11) := (blk_cell BK234.out 11).trans rfl
                            have hcz71_12 : wr.cell? ⟨gb234, 12, none⟩ = some (.slice A1_12 l1_12.length c1_12) := (blk_cell BK234.out 12).trans rfl
                            have hfz71_0 := blk_frozen BK234.out 0
                            have hfz71_1 := blk_frozen BK234.out 1
                            have hfz71_2 := blk_frozen BK234.out 2
                            have hfz71_3 := blk_frozen BK234.out 3
                            have hfz71_4 := blk_frozen BK234.out 4
                            have hfz71_5 := blk_frozen BK234.out 5
                            have hfz71_6 := blk_frozen BK234.out 6
                            have hfz71_7 := blk_frozen BK234.out 7
                            have hfz71_8 := blk_frozen BK234.out 8
                            have hfz71_9 := blk_frozen BK234.out 9
                            have hfz71_10 := blk_frozen BK234.out 10
                            have hfz71_11 := blk_frozen BK234.out 11
                            have hfz71_12 := blk_frozen BK234.out 12
                            have p236 : 0 ≤ (x98_3 : Int) := of_decide_eq_true (by first | (with_reducible assumption) | assumption)
                            have q236 : x98_3 < (l1_12.length : Int) := of_decide_eq_true (by first | (with_reducible assumption) | assumption)
                            obtain ⟨ad236, e236, hx236_0⟩ := Kd.at_string HR1_12.out x98_3 p236 q236
                            cases e236
                            replace hx236_0 := (HB.out.cell (World.block_lt_of_cell? w _ hx236_0)).trans hx236_0
                            replace p236 := eq_true p236
                            replace q236 := eq_true q236
                            go_wp2
                            repeat (go_quiet (fail); try go_wp2)
                            go_ret
                            exact ⟨by first | rfl | (simp [errW_none, errW_some] <;> rfl) | (simp [*, errW_none, errW_some] <;> rfl), by repeat (first | (with_reducible first | exact HB.out | apply below_alloc | apply pw_below_drewN | apply below_drew1 | refine below_set ?_ GE233.out | refine below_set ?_ GE234.out) | exact HB.out)⟩
                        · rw [if_neg c64] at H
                          exact absurd H (by simp)
                      · rw [if_neg c63] at H
                        exact absurd H (by simp)
                    · rw [if_neg c62] at H
                      exact absurd H (by simp)
                  · rw [if_neg c61] at H
                    have c61b0 : decide (x98_3 < (l0_12.length : Int)) = false := decide_eq_false c61
                    clear c61
                    obtain rfl := Option.some.inj H
                    go_wp2
                    repeat (go_quiet (fail); try go_wp2)
                    go_ret
                    exact ⟨by first | rfl | (simp [errW_none, errW_some] <;> rfl) | (simp [*, errW_none, errW_some] <;> rfl), by repeat (first | (with_reducible first | exact HB.out | apply below_alloc | apply pw_below_drewN | apply below_drew1 | refine below_set ?_ GE233.out | refine below_set ?_ GE234.out) | exact HB.out)⟩

end Go.Proofs.Ytfghjahmnjghgaa.PFr

import Derived.Test.YtfghjahmnjghgaaFrG
import Derived.Test.YtfghjahmnjghgaaWire
set_option linter.unusedSimpArgs false
set_option linter.unusedVariables false
/- LAYER 8: frames' bytes, plainly. -/
namespace Go.Proofs.Ytfghjahmnjghgaa
open Go.RowKit Go.Proofs.YtfghjahmnjghgaaW.PrintWords
/-- numbers that may be -/
def okF (f : FrD) : Prop := f.a < 18446744073709551616 ∧ f.b < 18446744073709551616 ∧ f.c < 18446744073709551616 ∧ f.sg < 18446744073709551616 ∧ f.on < 18446744073709551616 ∧ f.pv < 18446744073709551616 ∧ f.nn < 18446744073709551616
theorem right_parts (f : FrD) (h : rightF f = true) : 0 ≤ f.kd ∧ f.kd ≤ 2 ∧ f = ofF f ∧ f.bo.size ≤ 1024 ∧ f.keys.length ≤ 32 ∧ oddL (pointsF f) = false := by
  unfold rightF likeF at h
  simp only [Bool.and_eq_true, decide_eq_true_eq, Bool.not_eq_true'] at h
  obtain ⟨⟨⟨⟨⟨h1, h2⟩, h3⟩, h4⟩, h5⟩, h6⟩ := h
  exact ⟨h1, h2, h3, h4, h5, h6⟩
theorem odd_no {l : List ByteArray} (h : oddL l = false) : ∀ x ∈ l, x.size = 32 := by
  intro x hx
  unfold oddL at h
  rw [List.any_eq_false] at h
  have := h x hx
  simpa using this
theorem txt_short (s : ByteArray) (h : s.size ≤ 1024) : longP (txtP s) = false := by
  unfold longP txtP
  simp; omega
theorem num_short (n : Nat) : longP (numP n) = false := rfl
/-- what is known of a frame that may be -/
theorem right_sizes (f : FrD) (h : rightF f = true) : (f.kd = 0 → f.i.size = 32 ∧ f.ba.size = 32) ∧ (f.kd ≠ 2 → f.ra.size = 32) ∧ (f.kd = 2 → ∀ x ∈ f.keys, x.size = 32) := by
  obtain ⟨_, _, _, _, _, ho⟩ := right_parts f h
  have hq := odd_no ho
  unfold pointsF at hq
  refine ⟨fun h0 => ?_, fun h2 => ?_, fun h2 => ?_⟩
  · rw [if_neg (by omega), if_pos h0] at hq
    exact ⟨hq _ (by simp), hq _ (by simp)⟩
  · rw [if_neg h2] at hq
    by_cases h0 : f.kd = 0
    · rw [if_pos h0] at hq; exact hq _ (by simp)
    · rw [if_neg h0] at hq; exact hq _ (by simp)
  · rw [if_pos h2] at hq; exact hq
theorem head_short (f : FrD) (h : rightF f = true) : (headP f).any longP = false := by
  obtain ⟨s1, s2, _⟩ := right_sizes f h
  rw [List.any_eq_false]
  intro p hp
  unfold headP at hp
  by_cases h0 : f.kd = 0
  · obtain ⟨q1, q2⟩ := s1 h0
    have q3 := s2 (by omega)
    rw [if_pos h0, if_neg (by omega)] at hp
    simp only [List.mem_append, List.mem_cons, List.not_mem_nil, or_false] at hp
    rcases hp with ((rfl | rfl | rfl | rfl) | (rfl | rfl | rfl | rfl)) | (rfl | rfl | rfl) <;> first | (rw [num_short]; decide) | (rw [txt_short _ (by omega)]; decide)
  · rw [if_neg h0] at hp
    by_cases h2 : f.kd = 2
    · rw [if_pos h2] at hp
      simp only [List.append_nil, List.mem_cons, List.not_mem_nil, or_false] at hp
      rcases hp with rfl | rfl | rfl | rfl <;> (rw [num_short]; decide)
    · have q3 := s2 h2
      rw [if_neg h2] at hp
      simp only [List.append_nil, List.mem_append, List.mem_cons, List.not_mem_nil, or_false] at hp
      rcases hp with (rfl | rfl | rfl | rfl) | (rfl | rfl | rfl) <;> first | (rw [num_short]; decide) | (rw [txt_short _ (by omega)]; decide)
theorem parts_short (f : FrD) (h : rightF f = true) : (partsP f).any longP = false := by
  obtain ⟨_, _, s3⟩ := right_sizes f h
  obtain ⟨_, _, _, hb, _, _⟩ := right_parts f h
  unfold partsP
  rw [List.any_append, head_short f h, Bool.false_or, List.any_eq_false]
  intro p hp
  by_cases h2 : f.kd = 2
  · rw [if_pos h2] at hp
    rcases List.mem_cons.1 hp with rfl | hp
    · rw [num_short]; decide
    · obtain ⟨x, hx, rfl⟩ := List.mem_map.1 hp
      rw [txt_short _ (by rw [s3 h2 x hx]; decide)]; decide
  · rw [if_neg h2] at hp
    obtain rfl := List.mem_singleton.1 hp
    rw [txt_short _ hb]; decide
theorem head_nums (f : FrD) (h : 0 ≤ f.kd ∧ f.kd ≤ 2) (ho : okF f) : ∀ p ∈ headP f, p.n < 18446744073709551616 := by
  obtain ⟨o1, o2, o3, o4, o5, o6, o7⟩ := ho
  intro p hp
  unfold headP at hp
  have hz : (0 : Nat) < 18446744073709551616 := by decide
  have hkd : f.kd.toNat < 18446744073709551616 := by omega
  rcases List.mem_append.1 hp with hp | hp
  · rcases List.mem_append.1 hp with hp | hp
    · simp only [List.mem_cons, List.not_mem_nil, or_false] at hp
      rcases hp with rfl | rfl | rfl | rfl <;> first | exact hkd | exact o1 | exact o2 | exact o3
    · split at hp
      · simp only [List.mem_cons, List.not_mem_nil, or_false] at hp
        rcases hp with rfl | rfl | rfl | rfl <;> first | exact hz | exact o4 | exact o5
      · cases hp
  · split at hp
    · cases hp
    · simp only [List.mem_cons, List.not_mem_nil, or_false] at hp
      rcases hp with rfl | rfl | rfl <;> first | exact hz | exact o6 | exact o7
theorem parts_nums (f : FrD) (h : 0 ≤ f.kd ∧ f.kd ≤ 2) (ho : okF f) (hn : f.keys.length ≤ 1000000) : ∀ p ∈ partsP f, p.n < 18446744073709551616 := by
  intro p hp
  have hz : (0 : Nat) < 18446744073709551616 := by decide
  unfold partsP at hp
  rcases List.mem_append.1 hp with hp | hp
  · exact head_nums f h ho p hp
  · split at hp
    · rcases List.mem_cons.1 hp with rfl | hp
      · show f.keys.length < _; omega
      · obtain ⟨x, _, rfl⟩ := List.mem_map.1 hp; exact hz
    · obtain rfl := List.mem_singleton.1 hp; exact hz
/-- parts' bytes -/
def pk (ps : List PartD) : ByteArray := ⟨(packL ps).toArray⟩
theorem pk_app (xs ys : List PartD) : pk (xs ++ ys) = pk xs ++ pk ys := by
  unfold pk packL
  rw [List.flatMap_append]
  exact (mk_append _ _).symm
theorem pk_one (p : PartD) : pk [p] = oneS p := by
  apply ByteArray.ext
  apply Array.ext'
  unfold pk packL oneS oneL
  simp only [List.flatMap_cons, List.flatMap_nil, List.append_nil]
  split
  · rw [ByteArray.data_append, Array.toList_append]
  · rfl
theorem packV_ok (ps : List PartD) (h : ps.any longP = false) : packV ps = .tuple #[.string (pk ps), .int .i64 0] := by
  unfold packV pk
  rw [h]; rfl
theorem parts_le (f : FrD) (hn : f.keys.length ≤ 1000000) : (partsP f).length ≤ 1000000 + 20 := by
  have := headP_len f
  unfold partsP
  rw [List.length_append]
  split
  · rw [List.length_cons, List.length_map]; omega
  · simp; omega
end Go.Proofs.Ytfghjahmnjghgaa

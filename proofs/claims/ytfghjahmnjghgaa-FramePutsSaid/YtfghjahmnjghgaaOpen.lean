import Derived.Test.YtfghjahmnjghgaaKit
import Derived.ProofKit
import Derived.Deep.Slices
import Derived.Deep.Strs
set_option linter.unusedSimpArgs false
set_option linter.unusedVariables false
namespace Go.Proofs.Ytfghjahmnjghgaa
open Go.RowKit Go.Proofs.YtfghjahmnjghgaaW.PrintWords Go.ChangeShapes Go.WideShapes Go.Deep
theorem u64_bounds {k : Int} (h : (Lit.int .u64 k).wf = true) : 0 ≤ k ∧ k < 18446744073709551616 := by
  simp [Lit.wf, IntKind.min, IntKind.max, IntKind.signed, IntKind.bits] at h
  omega
section
variable {H : Type} {enc : TypeId × Value → H} {P : Program} {W : World}
/-- A slice argument, opened: each element by its own kind. -/
theorem open_C {α : Type} [Inhabited α] (k : Kd α) (WF : α → Prop) {t e : TypeId} (ht : P.underlying t = some (.slice e)) (hsz : P.cellsOf e = k.sz)
    (hel : ∀ n cs y, DataW.trod enc P W 0 (fun _ => true) true n e cs = some y → ∃ x, k.K W x cs ∧ WF x) {a : Option Addr} {len cap : Nat} {d : DataW H} {p : List MemPlace}
    (h : DataW.Trod enc P W 0 (fun _ => true) true t (.slice a len cap) d p) : ∃ xs, k.C W a len xs ∧ len ≤ cap ∧ cap ≤ 9223372036854775807 ∧ ∀ x ∈ xs, WF x := by
  obtain ⟨fuel, hf⟩ := h
  rcases open_slice ht hf with ⟨hcs, _⟩ | ⟨x, l, c, m, n, D, Pl, hcs, _, hl, hm, hmm, _, hx⟩
  · simp [Value.cells] at hcs
    obtain ⟨rfl, rfl, rfl⟩ := hcs
    exact ⟨[], Kd.C_nil k W, Nat.le_refl _, by omega, by simp⟩
  · simp [Value.cells] at hcs
    obtain ⟨rfl, rfl, rfl⟩ := hcs
    simp at hmm
    subst hmm
    have hm' : m ≤ 9223372036854775807 := by simpa [maxLen] using hm
    obtain ⟨f, hf⟩ := choose_lt (p := fun i (y : α) => ∃ cs, W.cells? 0 (x.add (i * P.cellsOf e)) (P.cellsOf e) = some cs ∧ k.K W y cs ∧ WF y) (fun i hi => by
      obtain ⟨cs, h1, h2⟩ := hx i hi
      obtain ⟨y, h3, h4⟩ := hel _ _ _ h2
      exact ⟨y, cs, h1, h3, h4⟩)
    refine ⟨(List.range len).map f, ⟨by simp, by omega, fun _ => ⟨x, rfl, fun j q hj => ?_⟩⟩, hl, hm', ?_⟩
    · have hj' : j < len := by have := (List.getElem?_eq_some_iff.1 hj).1; simpa using this
      have hq : f j = q := by simpa [List.getElem?_range hj'] using hj
      subst hq
      obtain ⟨cs, h1, h2, _⟩ := hf j (by omega)
      obtain ⟨_, h3, h4⟩ := World.cells?_some h1
      refine ⟨cs, by rw [k.K_len h2], h2, fun i u hu => ?_⟩
      have := h4 i (by have := (List.getElem?_eq_some_iff.1 hu).1; omega)
      rw [← hsz, ← Deep.add_add, this]; exact hu
    · intro y hy
      obtain ⟨i, hi, rfl⟩ := List.mem_map.1 hy
      obtain ⟨_, _, _, h⟩ := hf i (by have := List.mem_range.1 hi; omega)
      exact h
end
end Go.Proofs.Ytfghjahmnjghgaa

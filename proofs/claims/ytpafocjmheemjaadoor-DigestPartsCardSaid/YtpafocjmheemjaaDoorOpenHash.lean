import Derived.Test.YtpafocjmheemjaaDoorOpen
import Derived.Test.YtpafocjmheemjaaDoorShaJ
/- A SUM AS AN ARGUMENT, OPENED. -/
namespace Go.Proofs.YtpafocjmheemjaaDoor
open Go.RowKit Go.Proofs.YtpafocjmheemjaaDoorW.PrintWords Go.ChangeShapes Go.WideShapes Go.Deep
theorem cellsU32s : Tryd.prog.cellsOf 22 = 1 := by kernel_rfl
theorem cellsU32 : Tryd.prog.cellsOf 91 = 1 := by kernel_rfl
theorem cellsStr : Tryd.prog.cellsOf 9 = 1 := by kernel_rfl
theorem cellsU64 : Tryd.prog.cellsOf 23 = 1 := by kernel_rfl
theorem cellsHash : Tryd.prog.cellsOf 25 = 3 := by kernel_rfl
theorem u32_bounds {k : Int} (h : (Lit.int .u32 k).wf = true) : 0 ≤ k ∧ k < 4294967296 := by
  simp [Lit.wf, IntKind.min, IntKind.max, IntKind.signed, IntKind.bits] at h
  omega
section
variable {H : Type} {enc : TypeId × Value → H} {W : World}
theorem open_words {n : Nat} {cs : List Value} {y : DataW H × List MemPlace} (h : DataW.trod enc Tryd.prog W 0 (fun _ => true) true n 22 cs = some y) :
    ∃ (A : Option Addr) (l c : Nat) (f : Nat → W32), cs = [.slice A l c] ∧ l ≤ c ∧ RowN W A l f := by
  rcases open_slice1 Tryd.underlying22 cellsU32 h with ⟨rfl, _⟩ | ⟨a, l, c, m, k, V, D, Pl, rfl, _, hl, hm, hmm, _, hx⟩
  · exact ⟨none, 0, 0, fun _ => 0, rfl, Nat.le_refl _, RowN.zero _ _ _⟩
  · simp at hmm
    subst hmm
    have he : ∀ i, i < l → ∃ x : W32, W.cell? (a.add i) = some (u32 x) := fun i hi => by
      obtain ⟨h1, h2⟩ := hx i (by omega)
      obtain ⟨z, e, _, wz⟩ := DataW.trod_int Tryd.underlying91 h2
      have hz := u32_bounds wz
      have e' : V i = .int .u32 z := by simpa using e
      refine ⟨BitVec.ofNat 32 z.toNat, ?_⟩
      rw [h1, e']
      have : un (BitVec.ofNat 32 z.toNat) = z := by
        unfold un
        rw [BitVec.toNat_ofNat, Nat.mod_eq_of_lt (by omega)]
        omega
      unfold u32
      rw [this]
    obtain ⟨f, hf⟩ := choose_lt (p := fun i (x : W32) => W.cell? (a.add i) = some (u32 x)) he
    exact ⟨some a, l, m, f, rfl, hl, fun _ => ⟨a, rfl, hf⟩⟩
set_option maxRecDepth 100000 in
theorem open_hash (n : Nat) (cs : List Value) (y : DataW H × List MemPlace) (h : DataW.trod enc Tryd.prog W 0 (fun _ => true) true n 25 cs = some y) :
    ∃ (A : Option Addr) (l c : Nat) (r : ByteArray) (m : Nat) (f : Nat → W32), cs = [.slice A l c, .string r, .int .u64 (m : Int)] ∧ l ≤ c ∧ RowN W A l f := by
  obtain ⟨y0, y1, y2, k, _, hl, h0, h1, h2⟩ := trod_struct3 Tryd.underlying25 h
  rw [cellsHash] at hl
  match cs, hl with
  | [c0, c1, c2], _ =>
    obtain ⟨A, l, c, f, e0, hlc, hR⟩ := open_words h0
    obtain ⟨s, e1, _, hs⟩ := DataW.trod_string Tryd.underlying9 h1
    obtain ⟨z, e2, _, wz⟩ := DataW.trod_int Tryd.underlying23 h2
    have d0 : c0 = .slice A l c := by simpa [cellsU32s] using e0
    have d1 : c1 = .string s := by simpa [cellsU32s, cellsStr] using e1
    have d2 : c2 = .int .u64 z := by simpa [cellsU64, cellsStr] using e2
    have hz := u64_bounds wz
    refine ⟨A, l, c, s, z.toNat, f, ?_, hlc, hR⟩
    rw [d0, d1, d2, Int.toNat_of_nonneg hz.1]
end
end Go.Proofs.YtpafocjmheemjaaDoor

import Derived.Test.YtnkfdpkjphbheaaOpen
import Derived.Test.YtnkfdpkjphbheaaSkA
namespace Go.Proofs.Ytnkfdpkjphbheaa
open Go.RowKit Go.Proofs.YtnkfdpkjphbheaaW.PrintWords Go.ChangeShapes Go.WideShapes Go.Deep
theorem cells22K : Try.prog.cellsOf 22 = 1 := by kernel_rfl
theorem cells9K : Try.prog.cellsOf 9 = 1 := by kernel_rfl
theorem cells28 : Try.prog.cellsOf 28 = 3 := by kernel_rfl
theorem open_kept {H : Type} {enc : TypeId × Value → H} {W : World} (n : Nat) (cs : List Value) (y : DataW H × List MemPlace) (h : DataW.trod enc Try.prog W 0 (fun _ => true) true n 28 cs = some y) : ∃ x : KeptD, kK.K W x cs ∧ x.n < 18446744073709551616 := by
  obtain ⟨y0, y1, y2, m, rfl, hl, h0, h1, h2⟩ := trod_struct3 Try.underlying28 h
  rw [cells28] at hl
  match cs, hl with
  | [c0, c1, c2], _ =>
    obtain ⟨b, e0, _⟩ := DataW.trod_string Try.underlying9 h0
    obtain ⟨k, e1, _, wk⟩ := DataW.trod_int Try.underlying22 h1
    obtain ⟨s, e2, _, hs⟩ := DataW.trod_string Try.underlying9 h2
    have d0 : c0 = .string b := by simpa [cells9K] using e0
    have d1 : c1 = .int .u64 k := by simpa [cells22K, cells9K] using e1
    have d2 : c2 = .string s := by simpa [cells9K, cells22K] using e2
    have hk := u64_bounds wk
    refine ⟨⟨b, k.toNat, s⟩, ?_, by show k.toNat < _; omega⟩
    rw [d0, d1, d2]
    show [Value.string b, .int .u64 k, .string s] = [Value.string b, .int .u64 (k.toNat : Int), .string s]
    rw [Int.toNat_of_nonneg hk.1]
end Go.Proofs.Ytnkfdpkjphbheaa

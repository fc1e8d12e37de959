import Derived.Test.YtnkfdpkjphbheaaOpen
import Derived.Test.YtnkfdpkjphbheaaWireP
import Derived.Test.YtnkfdpkjphbheaaProg
namespace Go.Proofs.Ytnkfdpkjphbheaa
open Go.RowKit Go.Proofs.YtnkfdpkjphbheaaW.PrintWords Go.ChangeShapes Go.WideShapes Go.Deep
instance : Inhabited PartD := ⟨⟨false, 0, .empty⟩⟩
theorem cells4 : Try.prog.cellsOf 4 = 1 := by kernel_rfl
theorem cells22 : Try.prog.cellsOf 22 = 1 := by kernel_rfl
theorem cells9 : Try.prog.cellsOf 9 = 1 := by kernel_rfl
theorem cells51 : Try.prog.cellsOf 51 = 3 := by kernel_rfl
theorem open_part {H : Type} {enc : TypeId × Value → H} {W : World} (n : Nat) (cs : List Value) (y : DataW H × List MemPlace) (h : DataW.trod enc Try.prog W 0 (fun _ => true) true n 51 cs = some y) : ∃ x : PartD, kP.K W x cs ∧ x.n < 18446744073709551616 := by
  obtain ⟨y0, y1, y2, m, rfl, hl, h0, h1, h2⟩ := trod_struct3 Try.underlying51 h
  rw [cells51] at hl
  match cs, hl with
  | [c0, c1, c2], _ =>
    obtain ⟨b, e0, _⟩ := DataW.trod_bool Try.underlying4 h0
    obtain ⟨k, e1, _, wk⟩ := DataW.trod_int Try.underlying22 h1
    obtain ⟨s, e2, _, hs⟩ := DataW.trod_string Try.underlying9 h2
    have d0 : c0 = .bool b := by simpa [cells4] using e0
    have d1 : c1 = .int .u64 k := by simpa [cells22] using e1
    have d2 : c2 = .string s := by simpa [cells9] using e2
    have hk := u64_bounds wk
    refine ⟨⟨b, k.toNat, s⟩, ?_, by show k.toNat < _; omega⟩
    rw [d0, d1, d2]
    show [Value.bool b, .int .u64 k, .string s] = [Value.bool b, .int .u64 (k.toNat : Int), .string s]
    rw [Int.toNat_of_nonneg hk.1]
end Go.Proofs.Ytnkfdpkjphbheaa

import Derived.Test.YtfghjahmnjghgaaFrQ
import Derived.Test.YtfghjahmnjghgaaOpen
set_option linter.unusedSimpArgs false
set_option linter.unusedVariables false
/- LAYER 8: a frame as an argument, opened. -/
namespace Go.Proofs.Ytfghjahmnjghgaa
open Go.RowKit Go.Proofs.YtfghjahmnjghgaaW.PrintWords Go.ChangeShapes Go.WideShapes Go.Deep
theorem cI : Try.prog.cellsOf 3 = 1 := by kernel_rfl
theorem cU : Try.prog.cellsOf 22 = 1 := by kernel_rfl
theorem cS : Try.prog.cellsOf 9 = 1 := by kernel_rfl
theorem cL : Try.prog.cellsOf 23 = 1 := by kernel_rfl
theorem cF : Try.prog.cellsOf 25 = 13 := by kernel_rfl
/-- a frame as it lies: its keys in a row -/
structure FrX where
  f : FrD
  A : Option Addr
  l : Nat
  cp : Nat
def encX (x : FrX) : List Value := (frC x.f.kd x.f.a x.f.b x.f.c x.f.i x.f.ba x.f.sg x.f.on x.f.ra x.f.pv x.f.nn x.f.bo (.slice x.A x.l x.cp)).toList
section
variable {H : Type} {enc : TypeId × Value → H} {W : World}
theorem open_keys {n : Nat} {cs : List Value} {y : DataW H × List MemPlace} (h : DataW.trod enc Try.prog W 0 (fun _ => true) true n 23 cs = some y) :
    ∃ (A : Option Addr) (l c : Nat) (xs : List ByteArray), cs = [.slice A l c] ∧ l ≤ c ∧ Kd.string.C W A l xs := by
  have hs : ∃ A l c, cs = [.slice A l c] := by
    rcases open_slice1 Try.underlying23 cS h with ⟨rfl, _⟩ | ⟨a, l, c, m, k, V, D, Pl, rfl, _⟩
    · exact ⟨_, _, _, rfl⟩
    · exact ⟨_, _, _, rfl⟩
  obtain ⟨A, l, c, rfl⟩ := hs
  obtain ⟨d, p⟩ := y
  obtain ⟨xs, h1, h2, _, _⟩ := open_C (P := Try.prog) Kd.string (fun _ => True) Try.underlying23 (by rw [cS]; rfl) (fun n cs y hy => by
    obtain ⟨s, e, _, _⟩ := DataW.trod_string Try.underlying9 hy
    exact ⟨s, e, trivial⟩) (a := A) (len := l) (cap := c) (d := d) (p := p) ⟨n, h⟩
  exact ⟨A, l, c, xs, rfl, h2, h1⟩
set_option maxRecDepth 100000 in
set_option maxHeartbeats 1000000 in
theorem open_frame (n : Nat) (cs : List Value) (y : DataW H × List MemPlace) (h : DataW.trod enc Try.prog W 0 (fun _ => true) true n 25 cs = some y) :
    ∃ x : FrX, cs = encX x ∧ x.l ≤ x.cp ∧ Kd.string.C W x.A x.l x.f.keys ∧ okF x.f := by
  obtain ⟨xs, n, _, rfl, hl, hlen, hf⟩ := DataW.trod_struct Try.underlying25 h
  rw [cF] at hl
  match cs, hl, xs, hlen with
  | [c0, c1, c2, c3, c4, c5, c6, c7, c8, c9, c10, c11, c12], _, [y0, y1, y2, y3, y4, y5, y6, y7, y8, y9, y10, y11, y12], _ =>
    have h0 := (hf 0 _ rfl).trans (show _ = some y0 from rfl)
    have h1 := (hf 1 _ rfl).trans (show _ = some y1 from rfl)
    have h2 := (hf 2 _ rfl).trans (show _ = some y2 from rfl)
    have h3 := (hf 3 _ rfl).trans (show _ = some y3 from rfl)
    have h4 := (hf 4 _ rfl).trans (show _ = some y4 from rfl)
    have h5 := (hf 5 _ rfl).trans (show _ = some y5 from rfl)
    have h6 := (hf 6 _ rfl).trans (show _ = some y6 from rfl)
    have h7 := (hf 7 _ rfl).trans (show _ = some y7 from rfl)
    have h8 := (hf 8 _ rfl).trans (show _ = some y8 from rfl)
    have h9 := (hf 9 _ rfl).trans (show _ = some y9 from rfl)
    have h10 := (hf 10 _ rfl).trans (show _ = some y10 from rfl)
    have h11 := (hf 11 _ rfl).trans (show _ = some y11 from rfl)
    have h12 := (hf 12 _ rfl).trans (show _ = some y12 from rfl)
    obtain ⟨v0, e0, _, w0⟩ := DataW.trod_int Try.underlying3 h0
    obtain ⟨v1, e1, _, w1⟩ := DataW.trod_int Try.underlying22 h1
    obtain ⟨v2, e2, _, w2⟩ := DataW.trod_int Try.underlying22 h2
    obtain ⟨v3, e3, _, w3⟩ := DataW.trod_int Try.underlying22 h3
    obtain ⟨v4, e4, _, _⟩ := DataW.trod_string Try.underlying9 h4
    obtain ⟨v5, e5, _, _⟩ := DataW.trod_string Try.underlying9 h5
    obtain ⟨v6, e6, _, w6⟩ := DataW.trod_int Try.underlying22 h6
    obtain ⟨v7, e7, _, w7⟩ := DataW.trod_int Try.underlying22 h7
    obtain ⟨v8, e8, _, _⟩ := DataW.trod_string Try.underlying9 h8
    obtain ⟨v9, e9, _, w9⟩ := DataW.trod_int Try.underlying22 h9
    obtain ⟨v10, e10, _, w10⟩ := DataW.trod_int Try.underlying22 h10
    obtain ⟨v11, e11, _, _⟩ := DataW.trod_string Try.underlying9 h11
    obtain ⟨A, l, cp, ks, e12, hlc, hC⟩ := open_keys h12
    have d0 : c0 = .int .i64 v0 := by simpa [cI, cU, cS, cL] using e0
    have d1 : c1 = .int .u64 v1 := by simpa [cI, cU, cS, cL] using e1
    have u1 := u64_bounds w1
    have d2 : c2 = .int .u64 v2 := by simpa [cI, cU, cS, cL] using e2
    have u2 := u64_bounds w2
    have d3 : c3 = .int .u64 v3 := by simpa [cI, cU, cS, cL] using e3
    have u3 := u64_bounds w3
    have d4 : c4 = .string v4 := by simpa [cI, cU, cS, cL] using e4
    have d5 : c5 = .string v5 := by simpa [cI, cU, cS, cL] using e5
    have d6 : c6 = .int .u64 v6 := by simpa [cI, cU, cS, cL] using e6
    have u6 := u64_bounds w6
    have d7 : c7 = .int .u64 v7 := by simpa [cI, cU, cS, cL] using e7
    have u7 := u64_bounds w7
    have d8 : c8 = .string v8 := by simpa [cI, cU, cS, cL] using e8
    have d9 : c9 = .int .u64 v9 := by simpa [cI, cU, cS, cL] using e9
    have u9 := u64_bounds w9
    have d10 : c10 = .int .u64 v10 := by simpa [cI, cU, cS, cL] using e10
    have u10 := u64_bounds w10
    have d11 : c11 = .string v11 := by simpa [cI, cU, cS, cL] using e11
    have d12 : c12 = .slice A l cp := by simpa [cI, cU, cS, cL] using e12
    refine ⟨⟨⟨v0, v1.toNat, v2.toNat, v3.toNat, v4, v5, v6.toNat, v7.toNat, v8, v9.toNat, v10.toNat, v11, ks⟩, A, l, cp⟩, ?_, hlc, hC, ?_⟩
    · rw [d0, d1, d2, d3, d4, d5, d6, d7, d8, d9, d10, d11, d12]
      unfold encX frC
      simp only [Int.toNat_of_nonneg u1.1, Int.toNat_of_nonneg u2.1, Int.toNat_of_nonneg u3.1, Int.toNat_of_nonneg u6.1, Int.toNat_of_nonneg u7.1, Int.toNat_of_nonneg u9.1, Int.toNat_of_nonneg u10.1]
    · unfold okF
      dsimp only
      omega
end
theorem FramePutsX_walk (x y : FrX) (W : World) (hx : x.l ≤ x.cp ∧ Kd.string.C W x.A x.l x.f.keys ∧ okF x.f) (hy : y.l ≤ y.cp ∧ Kd.string.C W y.A y.l y.f.keys ∧ okF y.f) :
    Calls Try.prog 3 #[.agg (encX x).toArray, .agg (encX y).toArray] W fun e W' => e = .returned (.bool true) ∧ Below W.heap.size W W' :=
  FramePuts_walk x.f y.f x.A y.A x.l x.cp y.l y.cp W hx.2.1 hx.1 hy.2.1 hy.1 hx.2.2
end Go.Proofs.Ytfghjahmnjghgaa

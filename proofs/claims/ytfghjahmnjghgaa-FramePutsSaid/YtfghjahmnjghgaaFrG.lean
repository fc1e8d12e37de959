import Derived.Test.YtfghjahmnjghgaaFrE
set_option linter.unusedVariables false
set_option linter.unusedSimpArgs false
/- LAYER 8: parts of frames, and frames of parts. -/
namespace Go.Proofs.Ytfghjahmnjghgaa
open Go.RowKit Go.Proofs.YtfghjahmnjghgaaW.PrintWords Go.Proofs.YtfghjahmnjghgaaW.PrintLast Go.Proofs.YtfghjahmnjghgaaW.PrintMore Go.Proofs.Ytfghjahmnjghgaa.PFr
theorem kP_of {w : World} {A : Option Addr} {n : Nat} {xs : List PartD} (h : Kd.C k67 w A n (xs.map s1)) : Kd.C kP w A n xs := by
  refine ⟨by have := h.1; rw [List.length_map] at this; exact this, h.2.1, fun hp => ?_⟩
  obtain ⟨ad, e, hc⟩ := h.2.2 hp
  refine ⟨ad, e, fun j p hj => ?_⟩
  obtain ⟨cs, hs, hk, hh⟩ := hc j (s1 p) (by rw [List.getElem?_map, hj]; rfl)
  have := k67_open hk
  subst this
  exact ⟨_, rfl, rfl, hh⟩
theorem C_zero {α : Type} (d : Kd α) (w : World) (A : Option Addr) : Kd.C d w A 0 [] := ⟨rfl, by decide, fun h => absurd h (by decide)⟩
theorem parts_any (f : FrD) (h0 : 0 ≤ f.kd) (h2 : f.kd ≤ 2) (A : Option Addr) (c : Nat) (w : World) (hC : Kd.string.C w A f.keys.length f.keys) (hc : f.keys.length ≤ c) (hn : f.keys.length ≤ 1000000) :
    Calls Try.prog 24 #[frV f (.slice A f.keys.length c)] w fun e w' => (∃ B d, e = .returned (.slice B (partsP f).length d) ∧ (partsP f).length ≤ d ∧ Kd.C kP w' B (partsP f).length (partsP f)) ∧ Below w.heap.size w w' := by
  refine (frame_parts.calls (0 + f.keys.length + 1) f.kd f.a f.b f.c f.i f.ba f.sg f.on f.ra f.pv f.nn f.bo A c f.keys _ w hC hc (parts_f f h0 h2 hn 0)).mono ?_
  rintro e w' ⟨v, rfl, hR, hb⟩
  obtain ⟨B, d, rfl⟩ := Kd.R_slice hR
  obtain ⟨_, hd, hD⟩ := Kd.R_reads' hR
  rw [List.length_map] at hd hD ⊢
  exact ⟨⟨B, d, rfl, hd, kP_of hD⟩, hb⟩
theorem head_any (f : FrD) (h0 : 0 ≤ f.kd) (h2 : f.kd ≤ 2) (A : Option Addr) (c : Nat) (w : World) (hC : Kd.string.C w A f.keys.length f.keys) (hc : f.keys.length ≤ c) :
    Calls Try.prog 25 #[frV f (.slice A f.keys.length c)] w fun e w' => (∃ B d, e = .returned (.slice B (headP f).length d) ∧ (headP f).length ≤ d ∧ Kd.C kP w' B (headP f).length (headP f)) ∧ Below w.heap.size w w' := by
  refine (frame_head.calls (0 + 1) f.kd f.a f.b f.c f.i f.ba f.sg f.on f.ra f.pv f.nn f.bo A c f.keys _ w hC hc (head_f f h0 h2 0)).mono ?_
  rintro e w' ⟨v, rfl, hR, hb⟩
  obtain ⟨B, d, rfl⟩ := Kd.R_slice hR
  obtain ⟨_, hd, hD⟩ := Kd.R_reads' hR
  rw [List.length_map] at hd hD ⊢
  exact ⟨⟨B, d, rfl, hd, kP_of hD⟩, hb⟩
theorem of_any (f : FrD) (h0 : 0 ≤ f.kd) (h2 : f.kd ≤ 2) (B : Option Addr) (d : Nat) (w : World) (hC : Kd.C kP w B (partsP f).length (partsP f)) (hd : (partsP f).length ≤ d) (hn : f.keys.length ≤ 1000000) :
    Calls Try.prog 27 #[.slice B (partsP f).length d] w fun e w' => (∃ v, e = .returned (frV (ofF f) v) ∧ Out Kd.string w' v (ofF f).keys) ∧ Below w.heap.size w w' := by
  obtain ⟨kd, a, b, c, i, ba, sg, on, ra, pv, nn, bo, ks⟩ := f
  dsimp only at *
  have hk : kd = 0 ∨ kd = 1 ∨ kd = 2 := by omega
  rcases hk with rfl | rfl | rfl
  · refine (of_hello B d a b c i ba sg on ra pv nn bo w hC hd).mono ?_
    rintro e w' ⟨rfl, hb⟩
    exact ⟨⟨_, rfl, none, 0, rfl, Nat.le_refl 0, by decide, C_zero _ _ _⟩, hb⟩
  · refine (of_later B d a b c ra pv nn bo w hC hd).mono ?_
    rintro e w' ⟨rfl, hb⟩
    exact ⟨⟨_, rfl, none, 0, rfl, Nat.le_refl 0, by decide, C_zero _ _ _⟩, hb⟩
  · have e : partsP ⟨2, a, b, c, i, ba, sg, on, ra, pv, nn, bo, ks⟩ = keyP a b c ks := by
      unfold partsP headP keyP
      simp
    have el : (keyP a b c ks).length = ks.length + 5 := by unfold keyP; simp
    rw [e, el] at hC hd ⊢
    refine (of_keys B d a b c ks w hC hd hn).mono ?_
    rintro e w' ⟨⟨v, rfl, hO⟩, hb⟩
    exact ⟨⟨v, rfl, hO⟩, hb⟩
end Go.Proofs.Ytfghjahmnjghgaa

import Derived.Test.YtdmpnogjpgoaaaaLimbWa
set_option linter.unusedSimpArgs false
namespace Go.Proofs.Ytdmpnogjpgoaaaa
open Go.RowKit Go.Proofs.YtdmpnogjpgoaaaaW.PrintWords Go.Proofs.YtdmpnogjpgoaaaaW.PrintLast Go.Proofs.YtdmpnogjpgoaaaaW.PrintMore
theorem C_strs {w : World} {g : Nat} {t : TypeId} {fr : Nat × Nat} (xs : List ByteArray) (hl : xs.length ≤ 9223372036854775807) (h : w.heap[g]? = some (.cells (xs.map Value.string).toArray t fr)) : Kd.C Kd.string w (some ⟨g, 0, none⟩) xs.length xs := by
  refine Kd.C_of_reads (d := ByteArray.empty) ⟨rfl, hl, fun _ => ⟨_, rfl, fun j hj => ?_⟩⟩
  rw [add_plain]
  have : w.cell? ⟨g, j, none⟩ = (xs.map Value.string).toArray[j]? := by simp [World.cell?, h]
  rw [this, List.getElem?_toArray, List.getElem?_map, List.getElem?_eq_getElem hj]
  simp [List.getD_eq_getElem?_getD, List.getElem?_eq_getElem hj]
theorem mayS_l (l : List ByteArray) (hl : l.length ≤ 1000) : ∀ (k i : Nat), i ≤ l.length → l.length - i < k →
    PLimbTells.limb_may.l0 k l l.length i = some (if (l.drop i).all (fun x => x.size == 32) then 0 else 2) := by
  intro k
  induction k with
  | zero => intro i _ h; omega
  | succ k ih =>
    intro i hi hk
    simp only [PLimbTells.limb_may.l0]
    by_cases h : i < l.length
    · have e : rdOf ByteArray.empty l (i : Int) = l[i] := by simp [rdOf, List.getD_eq_getElem?_getD, List.getElem?_eq_getElem h]
      rw [if_pos (by omega), if_pos (by omega), if_pos (by omega), e, List.drop_eq_getElem_cons h, List.all_cons]
      by_cases hs : l[i].size = 32
      · rw [if_pos (by omega), wr (by omega), show (i : Int) + 1 = ((i + 1 : Nat) : Int) by omega, ih (i + 1) (by omega) (by omega)]
        simp [hs]
      · rw [if_neg (by omega)]
        simp [hs]
    · rw [if_neg (by omega), List.drop_eq_nil_of_le (by omega)]; rfl
theorem may_1 (a : ByteArray) : PLimbTells.limb_may.f 2 [a] = some (if a.size = 32 then 0 else 2) := by
  have := mayS_l [a] (by simp) 2 0 (by simp) (by simp)
  unfold PLimbTells.limb_may.f
  rw [show (0 : Int) = ((0 : Nat) : Int) from rfl, this]
  simp
theorem may_2 (a b : ByteArray) : PLimbTells.limb_may.f 3 [a, b] = some (if a.size = 32 ∧ b.size = 32 then 0 else 2) := by
  have := mayS_l [a, b] (by simp) 3 0 (by simp) (by simp)
  unfold PLimbTells.limb_may.f
  rw [show (0 : Int) = ((0 : Nat) : Int) from rfl, this]
  simp
theorem may1_any (a : ByteArray) (w : World) (g : Nat) (h : w.heap[g]? = some (.cells #[.string a] 9 (0, 0))) :
    Calls Try.prog 54 #[.slice (some ⟨g, 0, none⟩) 1 1] w fun e w' => e = .returned (.int .i64 (if a.size = 32 then 0 else 2)) ∧ Below w.heap.size w w' :=
  (PLimbTells.limb_may.calls 2 _ 1 [a] _ w (C_strs [a] (by simp) h) (by simp) (may_1 a)).mono fun _ _ h => ⟨h.1, h.2.below⟩
theorem may2_any (a b : ByteArray) (w : World) (g : Nat) (h : w.heap[g]? = some (.cells #[.string a, .string b] 9 (0, 0))) :
    Calls Try.prog 54 #[.slice (some ⟨g, 0, none⟩) 2 2] w fun e w' => e = .returned (.int .i64 (if a.size = 32 ∧ b.size = 32 then 0 else 2)) ∧ Below w.heap.size w w' :=
  (PLimbTells.limb_may.calls 3 _ 2 [a, b] _ w (C_strs [a, b] (by simp) h) (by simp) (may_2 a b)).mono fun _ _ h => ⟨h.1, h.2.below⟩
end Go.Proofs.Ytdmpnogjpgoaaaa

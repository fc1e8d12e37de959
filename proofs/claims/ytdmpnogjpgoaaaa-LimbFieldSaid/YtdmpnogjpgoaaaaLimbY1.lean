import Derived.Test.YtdmpnogjpgoaaaaLimbX4
set_option linter.unusedSimpArgs false
/-! The reference of layer 1, by numbers. -/
namespace Go.Proofs.Ytdmpnogjpgoaaaa
open Go.RowKit Go.Proofs.YtdmpnogjpgoaaaaW.PrintWords Go.Proofs.YtdmpnogjpgoaaaaW.PrintLast Go.Proofs.YtdmpnogjpgoaaaaW.PrintMore
/-- u is a slice that reads as a number's 16 digits. -/
structure Dg (w : World) (v : Nat) (u : Value) : Prop where
  out : ∃ A c, u = .slice A (I (digs 16 v)).length c ∧ (I (digs 16 v)).length ≤ c ∧ Kd.C (Kd.int .i64) w A (I (digs 16 v)).length (I (digs 16 v))
theorem Dg.up {w w1 : World} {v : Nat} {u : Value} (h : Dg w v u) (hb : Below w.heap.size w w1) : Dg w1 v u := by
  obtain ⟨A, c, e, h1, h2⟩ := h.out
  exact ⟨A, c, e, h1, Kd.C_below h2 hb⟩
theorem Dg.of_R {w : World} {B : Nat} {ok : Nat → Prop} {v : Nat} {u : Value} (h : Kd.R (Kd.int .i64) 3 w B ok u (I (digs 16 v))) : Dg w v u := ⟨Kd.R_reads h⟩
/-- a call gives a number's digits -/
structure GivesD (v : Nat) (w : World) (e : Ending) (w' : World) : Prop where
  out : ∃ u, e = .returned u ∧ Dg w' v u ∧ Below w.heap.size w w'
theorem refDigits (s : ByteArray) (hs : s.size = 32) (w : World) : Calls Try.prog 17 #[.string s] w (GivesD (leV s) w) :=
  (PLimbTells.demurralref01_Digits.calls 17 s _ w (digitsS s hs 17 (by omega))).mono fun _ _ ⟨v, h1, h2, h3⟩ => ⟨v, h1, .of_R h2, h3⟩
theorem refText {w : World} {v : Nat} {u : Value} (h : Dg w v u) : Calls Try.prog 14 #[u] w fun e w' => e = .returned (.string (textV v)) ∧ Below w.heap.size w w' := by
  obtain ⟨A, c, rfl, h1, h2⟩ := h.out
  exact PLimbTells.demurralref01_Text.calls 17 A c _ _ w h2 h1 (textS v 17 (by omega))
theorem refLeft {w : World} {v : Nat} {u : Value} (h : Dg w v u) (hv : v < 65536 ^ 16) : Calls Try.prog 16 #[u] w (GivesD (v % P25) w) := by
  obtain ⟨A, c, rfl, h1, h2⟩ := h.out
  have hS := LeftS (digs 16 v) (digs_len _ _) (fun d hd => by have := digs_lt _ _ d hd; omega) 60 (by omega)
  rw [valD_digs, Nat.mod_eq_of_lt hv] at hS
  exact (PLimbTells.demurralref01_Left.calls 60 A c _ _ w h2 h1 hS).mono fun _ _ ⟨v, h1, h2, h3⟩ => ⟨v, h1, .of_R h2, h3⟩
theorem refAdd {w : World} {v1 v2 : Nat} {u1 u2 : Value} (h : Dg w v1 u1) (k : Dg w v2 u2) (hv1 : v1 < 65536 ^ 16) (hv2 : v2 < 65536 ^ 16) : Calls Try.prog 23 #[u1, u2] w (GivesD ((v1 + v2) % P25) w) := by
  obtain ⟨A, c, rfl, h1, h2⟩ := h.out
  obtain ⟨A', c', rfl, k1, k2⟩ := k.out
  exact (PLimbTells.demurralref01_Add.calls 61 A c _ A' c' _ _ w h2 h1 k2 k1 (addS v1 v2 hv1 hv2 61 (by omega))).mono fun _ _ ⟨v, h1, h2, h3⟩ => ⟨v, h1, .of_R h2, h3⟩
theorem refSub {w : World} {v1 v2 : Nat} {u1 u2 : Value} (h : Dg w v1 u1) (k : Dg w v2 u2) (hv1 : v1 < 65536 ^ 16) (hv2 : v2 < P25) : Calls Try.prog 24 #[u1, u2] w (GivesD ((v1 + P25 - v2) % P25) w) := by
  obtain ⟨A, c, rfl, h1, h2⟩ := h.out
  obtain ⟨A', c', rfl, k1, k2⟩ := k.out
  exact (PLimbTells.demurralref01_Sub.calls 61 A c _ A' c' _ _ w h2 h1 k2 k1 (subS v1 v2 hv1 hv2 61 (by omega))).mono fun _ _ ⟨v, h1, h2, h3⟩ => ⟨v, h1, .of_R h2, h3⟩
theorem refMul {w : World} {v1 v2 : Nat} {u1 u2 : Value} (h : Dg w v1 u1) (k : Dg w v2 u2) (hv1 : v1 < 65536 ^ 16) (hv2 : v2 < 65536 ^ 16) : Calls Try.prog 25 #[u1, u2] w (GivesD (v1 * v2 % P25) w) := by
  obtain ⟨A, c, rfl, h1, h2⟩ := h.out
  obtain ⟨A', c', rfl, k1, k2⟩ := k.out
  exact (PLimbTells.demurralref01_Mul.calls 329 A c _ A' c' _ _ w h2 h1 k2 k1 (mulS v1 v2 hv1 hv2 329 (by omega))).mono fun _ _ ⟨v, h1, h2, h3⟩ => ⟨v, h1, .of_R h2, h3⟩
theorem sizedS_l (l : List ByteArray) (hl : l.length ≤ 1000) : ∀ (k i : Nat), i ≤ l.length → l.length - i < k →
    PLimbTells.demurralref01_Sized.l0 k l l.length i = some ((l.drop i).all (fun x => x.size == 32)) := by
  intro k
  induction k with
  | zero => intro i _ h; omega
  | succ k ih =>
    intro i hi hk
    simp only [PLimbTells.demurralref01_Sized.l0]
    by_cases h : i < l.length
    · have e : rdOf ByteArray.empty l (i : Int) = l[i] := by simp [rdOf, List.getD_eq_getElem?_getD, List.getElem?_eq_getElem h]
      rw [if_pos (by omega), if_pos (by omega), if_pos (by omega), e, List.drop_eq_getElem_cons h, List.all_cons]
      by_cases hs : l[i].size = 32
      · rw [if_pos (by omega), wr (by omega), show (i : Int) + 1 = ((i + 1 : Nat) : Int) by omega, ih (i + 1) (by omega) (by omega)]
        simp [hs]
      · rw [if_neg (by omega)]
        simp [hs]
    · rw [if_neg (by omega), List.drop_eq_nil_of_le (by omega)]; rfl
theorem refSized (l : List ByteArray) (hl : l.length ≤ 1000) (w : World) (g : Nat) (h : w.heap[g]? = some (.cells (l.map Value.string).toArray 9 (0, 0))) :
    Calls Try.prog 22 #[.slice (some ⟨g, 0, none⟩) l.length l.length] w fun e w' => e = .returned (.bool (l.all (fun x => x.size == 32))) ∧ Below w.heap.size w w' := by
  have := sizedS_l l hl (l.length + 1) 0 (by omega) (by omega)
  exact (PLimbTells.demurralref01_Sized.calls (l.length + 1) _ _ l _ w (C_strs l (by omega) h) (Nat.le_refl _) this).mono fun _ _ h => ⟨h.1, h.2.below⟩
/-! ### the law's own helpers -/
def cutN (s : ByteArray) (n : Nat) : ByteArray := s.extract 0 (min s.size n)
theorem cutN_size (s : ByteArray) (n : Nat) : (cutN s n).size = min s.size n := by unfold cutN; rw [ByteArray.size_extract]; omega
theorem lawCut (s : ByteArray) (w : World) : Calls Try.prog 11 #[.string s] w fun e w' => e = .returned (.string (cutN s 34)) ∧ Below w.heap.size w w' := by
  refine PLimbTells.demurrallaw01_cut.calls s _ w ?_
  unfold PLimbTells.demurrallaw01_cut.f cutN mn
  split
  · rw [if_pos (by omega), if_pos (by omega), Nat.min_eq_right (by omega)]; rfl
  · rw [if_pos (by omega), if_pos (by omega), Nat.min_eq_left (by omega)]; rfl
theorem small_eq (n : Nat) (hn : n < 256) : PLimbTells.demurrallaw01_small.f n = some (textV n) := by
  unfold PLimbTells.demurrallaw01_small.f textV
  rw [if_pos (by omega), Option.bind_some, if_pos (by simp)]
  have : byts 32 n = n :: List.replicate 31 0 := by
    show n % 256 :: byts 31 (n / 256) = _
    rw [Nat.mod_eq_of_lt hn, Nat.div_eq_of_lt hn]; rfl
  rw [this]; rfl
theorem small_any (n : Nat) (hn : n < 256) (w : World) : Calls Try.prog 27 #[.int .u8 n] w fun e w' => e = .returned (.string (textV n)) ∧ Below w.heap.size w w' :=
  PLimbTells.demurrallaw01_small.calls n _ w (small_eq n hn)
end Go.Proofs.Ytdmpnogjpgoaaaa

import Derived.Test.YtpafocjmheemjaaDoorShaQ
set_option linter.unusedSimpArgs false
namespace Go.Proofs.YtpafocjmheemjaaDoor
open Go.RowKit Go.Proofs.YtpafocjmheemjaaDoorW.PrintWords
/-- a text's sum -/
def shaF (s : ByteArray) : ByteArray := sumF (wordsF ivF s) (leftF s) (addM 0 s.size)
theorem nil_app (s : ByteArray) : (⟨#[]⟩ : ByteArray) ++ s = s := by apply ba_ext; rw [app_list]; rfl
theorem right_nil : rightB 8 ⟨#[]⟩ 0 = true := by decide
theorem right_all (s : ByteArray) : rightB 8 (leftF s) (addM 0 s.size) = true := by
  have := right_behind (s := s) right_nil
  rw [nil_app] at this
  exact this
/-- what a sum comes to, behind parts -/
theorem sum_all (s : ByteArray) : sumF (wordsF ivF s) (leftF s) (addM 0 s.size) = textF (wordsF ivF (s ++ tailF (s.size % 64) (addM 0 s.size))) := by
  unfold sumF
  rw [leftF_size, words_two]
def wordN (n : Nat) : List Int := [((n / 16777216 % 256 : Nat) : Int), ((n / 65536 % 256 : Nat) : Int), ((n / 256 % 256 : Nat) : Int), ((n % 256 : Nat) : Int)]
theorem wordI_N (x : W32) : wordI x = wordN x.toNat := by
  unfold wordI wordN
  rw [← un_shr24, ← un_shr16, ← un_shr8]
  unfold un
  congr 1
theorem textF_N (F : Nat → W32) : textF F = strOfNums ((st8 F).flatMap wordN) := by
  unfold textF outI
  congr 1
  show (List.range 8).flatMap (fun i => wordI (F i)) = _
  rw [show st8 F = (List.range 8).map (fun i => (F i).toNat) from rfl, List.flatMap_map]
  simp only [wordI_N]
theorem shaF_N (s : ByteArray) : shaF s = strOfNums ((foldN (s ++ tailF (s.size % 64) (addM 0 s.size)) ((s ++ tailF (s.size % 64) (addM 0 s.size)).size / 64) ivL).flatMap wordN) := by
  unfold shaF
  rw [sum_all, textF_N]
  unfold wordsF
  rw [fold_N, iv_N]
theorem abc_eval : (((foldN ((⟨#[97, 98, 99]⟩ : ByteArray) ++ tailF 3 3) 1 ivL).flatMap wordN).take 2 == [186, 120]) = true := by decide +kernel
attribute [local irreducible] Calls mixF
set_option maxHeartbeats 1000000 in
theorem Of_any (s : ByteArray) (w : World) (hK : KeysAt w) (h2 : s.size ≤ 100000) :
    Calls Tryd.prog 27 #[.string s] w fun e w' => e = .returned (.string (shaF s)) ∧ Below w.heap.size w w' := by
  go_enter Tryd.func27, Tryd.ntmps27
  go_wp2_with fail
  refine (New_any _).mono ?_
  rintro e w1 ⟨⟨g, hg, rfl, hR⟩, hb1⟩
  go_wp2_with fail
  refine (behind_any _ 8 ivF ⟨#[]⟩ s 0 _ hR (hK.up hb1) (by decide) h2).mono ?_
  rintro e w2 ⟨⟨g2, hg2, rfl, hR2⟩, hb2⟩
  rw [nil_app] at hR2 ⊢
  have hb := below_step hb1 hb2
  go_wp2_with fail
  refine (Sum_yes _ 8 _ _ _ _ hR2 (hK.up hb) (right_all s)).mono ?_
  rintro e w3 ⟨hS, hb3⟩
  unfold SumR at hS
  subst hS
  go_wp2
  go_ret
  exact ⟨rfl, below_step hb hb3⟩
end Go.Proofs.YtpafocjmheemjaaDoor

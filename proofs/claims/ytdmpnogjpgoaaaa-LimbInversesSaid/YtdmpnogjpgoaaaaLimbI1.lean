import Derived.Test.YtdmpnogjpgoaaaaLimbY3
import Derived.Test.YtdmpnogjpgoaaaaLimbQI
set_option linter.unusedSimpArgs false
namespace Go.Proofs.Ytdmpnogjpgoaaaa
open Go.RowKit Go.Proofs.YtdmpnogjpgoaaaaW.PrintWords Go.Proofs.YtdmpnogjpgoaaaaW.PrintLast Go.Proofs.YtdmpnogjpgoaaaaW.PrintMore
theorem invS_0 (x : List Int) (k : Nat) : PLimbTells.demurralref01_Inv.l0 (k + 16) x [1] = PLimbTells.demurralref01_Inv.l1 k x (I (digs 16 1)) 254 := by rfl
theorem iv_16 (n k : Nat) : iv n k < 65536 ^ 16 := iv_lt n k
theorem invS_1 (n : Nat) (hn : n < 65536 ^ 16) : ∀ (t k : Nat), t ≤ 255 → 400 + t ≤ k → PLimbTells.demurralref01_Inv.l1 k (I (digs 16 n)) (I (digs 16 (iv n (255 - t)))) ((t : Int) - 1) = some (I (digs 16 (iv n 255))) := by
  intro t
  induction t with
  | zero =>
    intro k _ hk
    obtain ⟨k, rfl⟩ : ∃ m, k = m + 1 := ⟨k - 1, by omega⟩
    simp only [PLimbTells.demurralref01_Inv.l1]
    rw [if_neg (by omega)]
  | succ t ih =>
    intro k ht hk
    obtain ⟨k, rfl⟩ : ∃ m, k = m + 1 := ⟨k - 1, by omega⟩
    have ih := ih k (by omega) (by omega)
    simp only [PLimbTells.demurralref01_Inv.l1]
    have e1 : ((t + 1 : Nat) : Int) - 1 = (t : Int) := by omega
    have hk255 : 255 - t = (254 - t) + 1 := by omega
    have hs : iv n (255 - t) = if 254 - t = 252 ∨ 254 - t = 250 then iv n (254 - t) * iv n (254 - t) % P25 else iv n (254 - t) * iv n (254 - t) % P25 * n % P25 := by rw [hk255]; rfl
    have e2 : 255 - (t + 1) = 254 - t := by omega
    rw [e1, e2, if_pos (by omega), mulS _ _ (iv_16 _ _) (iv_16 _ _) k (by omega), Option.bind_some, wr (by omega)]
    by_cases h2 : t = 2
    · rw [if_pos (by omega)]
      rw [if_pos (by omega)] at hs
      rw [← hs]; exact ih
    · rw [if_neg (by omega)]
      by_cases h4 : t = 4
      · rw [if_pos (by omega)]
        rw [if_pos (by omega)] at hs
        rw [← hs]; exact ih
      · rw [if_neg (by omega), mulS _ _ (modP_16 _) hn k (by omega), Option.bind_some]
        rw [if_neg (by omega)] at hs
        rw [← hs]; exact ih
theorem invS (n : Nat) (hn : n < 65536 ^ 16) : PLimbTells.demurralref01_Inv.f 671 (I (digs 16 n)) = some (I (digs 16 (n ^ (P25 - 2) % P25))) := by
  rw [← iv_255]
  have := invS_1 n hn 255 655 (by omega) (by omega)
  unfold PLimbTells.demurralref01_Inv.f
  rw [show (671 : Nat) = 655 + 16 from rfl, invS_0]
  exact this
theorem refInv {w : World} {v : Nat} {u : Value} (h : Dg w v u) (hv : v < 65536 ^ 16) : Calls Try.prog 15 #[u] w (GivesD (v ^ (P25 - 2) % P25) w) := by
  obtain ⟨A, c, rfl, h1, h2⟩ := h.out
  exact (PLimbTells.demurralref01_Inv.calls 671 A c _ _ w h2 h1 (invS v hv)).mono fun _ _ ⟨v, h1, h2, h3⟩ => ⟨v, h1, .of_R h2, h3⟩
end Go.Proofs.Ytdmpnogjpgoaaaa

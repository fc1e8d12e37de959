import Derived.Test.YtpbaolijacimjaaDoorDr
import Derived.Test.YtpbaolijacimjaaDoorDa
import Derived.Test.YtpbaolijacimjaaDoorDb
set_option linter.unusedSimpArgs false
set_option linter.unusedVariables false
/- THE REFERENCE's NUMBERS: roots of primes. -/
namespace Go.Proofs.YtpbaolijacimjaaDoor
open Go.RowKit Go.Proofs.YtpbaolijacimjaaDoorW.PrintWords Go.Proofs.YtpbaolijacimjaaDoorW.PrintLast Go.Proofs.YtpbaolijacimjaaDoorW.PrintMore
theorem info_int : (Tryd.prog.info? 3).map (fun i => (i.zero, i.size, i.bytes)) = some (some (.int .i64 0), 1, 8) := by kernel_rfl
theorem info_u32 : (Tryd.prog.info? 83).map (fun i => (i.zero, i.size, i.bytes)) = some (some (.int .u32 0), 1, 4) := by kernel_rfl
/-- a row that is another block than v's, when v's row is made longer -/
theorem R_beside {α : Type} {d : Kd α} {e base : Nat} {W w4 : World} {v v4 p : Value} {xs : List α} (h : Kd.R d e W base (fun k => some k ≠ v.ownBlock) p xs) (hg : W.grownBy w4 v.ownBlock)
    (hat : v4.ownBlock = v.ownBlock ∨ ∃ b, v4.ownBlock = some b ∧ W.heap.size ≤ b) : Kd.R d e w4 base (fun k => some k ≠ v4.ownBlock) p xs :=
  Kd.R_mono (Kd.R_grown (Kd.R_bound h) hg (fun k hk => hk.1)) (fun k hk he => by
    rcases hat with h | ⟨b, h, hb⟩
    · exact hk.1 (he.trans h)
    · have h1 := hk.2.2.1
      rw [h] at he
      injection he with he
      omega)
set_option maxHeartbeats 8000000 in
set_option maxRecDepth 100000 in
theorem Roots_any (n : Int) (cube : Bool) (ps rs : List Int) (hl : rs.length = ps.length) (hm : ps.length ≤ 1000)
    (hP : ∀ w, Calls Tryd.prog 45 #[.int .i64 n] w fun e w' => ∃ v0, e = .returned v0 ∧ Kd.R (Kd.int .i64) 3 w' w.heap.size (fun _ => True) v0 ps ∧ Below w.heap.size w w')
    (hr : ∀ i, i < ps.length → PDigestSums.demurralref03_root.f 400 (rd ps i) cube = some (rd rs i)) (w : World) :
    Calls Tryd.prog 33 #[.int .i64 n, .bool cube] w fun e w' => ∃ v0, e = .returned v0 ∧ Kd.R (Kd.int .u32) 83 w' w.heap.size (fun _ => True) v0 rs ∧ Below w.heap.size w w' := by
  have HP := Lib.hid hP
  have HR := Lib.hid hr
  clear hP hr
  go_enter Tryd.func33, Tryd.ntmps33
  go_wp2_with (first | ((with_reducible refine gate_dst (N := 8) rfl ?_); refine Kd.R_lit (Kd.int .u32) w.heap.size 83 ?hg (N := 8) ?hd (xs := ([] : List Int)) (inner := []) (ok := fun _ => True) (okp := fun _ => True) ?hr ?hp (fun _ hk => hk) trivial (Below.refl _ _) (Nat.le_refl _) (by simp) ?_; (case hd => rfl); (case hg => rfl); (case hr => first | (go_simp; done) | (go_simp; rfl)); (case hp => exact (Reps.none _ _)); intro v1 w1 HO HB hg hnew; clear hg hnew))
  refine (HP.out _).mono ?_
  rintro e w2 ⟨v2, rfl, HO2, hb⟩
  obtain ⟨A2, c2, rfl⟩ := Kd.R_slice HO2
  have HP2 : Kd.R (Kd.int .i64) 3 w2 w.heap.size (fun k => some k ≠ v1.ownBlock) (.slice A2 ps.length c2) ps :=
    Kd.R_lower (Kd.R_mono (Kd.R_bound HO2) (fun k hk he => by
      have h1 := ((Kd.R_bound HO).1 k he.symm).2.2.1
      have h2 := hk.2.1
      omega)) (below_size HB)
  replace HO := Kd.R_below HO hb
  replace HB := below_step HB hb
  clear HO2 hb HP
  have HO0 := Lib.hid (show Kd.R (Kd.int .u32) 83 w2 w.heap.size (fun _ => True) v1 (rs.take 0) from HO)
  have HB0 := Lib.hid HB
  have HC0 := Lib.hid HP2
  clear HO HB HP2
  go_wp2_with fail
  go_loopg [5, 12] ps.length (fun kq v5 v12 w' => ∃ i : Nat, v12 = .int .i64 (i : Int) ∧ Aside0 (kq + i = ps.length) ∧ Aside0 (Kd.R (Kd.int .u32) 83 w' w.heap.size (fun _ => True) v5 (rs.take i)) ∧ Aside0 (Kd.R (Kd.int .i64) 3 w' w.heap.size (fun k => some k ≠ v5.ownBlock) (.slice A2 ps.length c2) ps) ∧ Aside0 (Below w.heap.size w w'))
  case atStart => exact ⟨0, rfl, ⟨by omega⟩, ⟨HO0.out⟩, ⟨HC0.out⟩, ⟨HB0.out⟩⟩
  case round =>
    clear HO0 HC0 HB0
    obtain ⟨i, rfl, HK, HO, HC, HB⟩ := hrel
    by_cases hi : i < ps.length
    · have hd : decide ((i : Int) < (ps.length : Int)) = true := decide_eq_true (by omega)
      have hi0 : (0 : Int) ≤ (i : Int) := by omega
      have hi1 : (i : Int) < (ps.length : Int) := by omega
      have hi2 : (ps.length : Int) ≤ 1000 := by omega
      obtain ⟨ad, rfl, hc⟩ := Kd.at_int (Kd.R_reads' HC.out).2.2 (i : Int) hi0 hi1
      rw [Int.toNat_natCast] at hc
      have ht : rs.take (i + 1) = rs.take i ++ [rd rs i] := by
        rw [List.take_add_one]
        unfold rd
        rw [List.getElem?_eq_getElem (by omega)]
        simp [show i < rs.length by omega]
      have HT := Aside0.mk ht
      clear ht
      cases gk with
      | zero => exact absurd HK.out (by omega)
      | succ k1 =>
        go_wp2_with fail
        refine (PDigestSums.demurralref03_root.calls 400 (rd ps i) cube (rd rs i) _ (HR.out i hi)).mono ?_
        rintro e w3 ⟨rfl, hb⟩
        replace HO := Aside0.mk (Kd.R_below HO.out hb)
        replace HC := Aside0.mk (Kd.R_below HC.out hb)
        replace HB := Aside0.mk (below_step HB.out hb)
        clear hb hc
        go_wp2_with (first | ((with_reducible refine gate_builtin (b := .append) (xs := #[.tmp 16, .tmp 20]) rfl ?_); (try (refine gate_guard (by rfl) ?_; dsimp only)); at_builtin; refine Kd.R_append (Kd.int .u32) (w0 := w) w.heap.size rfl (.tmp 16) (.tmp 20) 31 83 (.int .u32 0) 4 rfl Tryd.underlying31 info_u32 rfl (by decide) (by omega) u5 (rs.take i) (rd rs i) [.int .u32 (rd rs i)] (fun _ => True) (fun _ => False) rfl rfl ?aP (fun _ hk => hk.elim) ?aF ?aO ?aB ?aS ?aL ?_; (case aP => exact rfl); (case aB => exact HB.out); (case aF => exact (fun _ _ => trivial)); (case aO => exact HO.out); (case aS => exact (below_size HB.out)); (case aL => rw [List.length_take]; omega); intro v4 w4 ho hb hg hat; replace HC := Aside0.mk (R_beside HC.out hg hat); rw [← HT.out] at ho; replace HO := Aside0.mk ho; replace HB := Aside0.mk hb; clear ho hb hg hat))
        go_roundg k1
        case measure => omega
        case rel => exact ⟨i + 1, by simp, ⟨by have := HK.out; omega⟩, HO, HC, HB⟩
    · have hd : decide ((i : Int) < (ps.length : Int)) = false := decide_eq_false (by omega)
      have hall : rs.take i = rs := List.take_of_length_le (by omega)
      rw [hall] at HO
      go_wp2
      go_ret
      exact ⟨_, rfl, HO.out, HB.out⟩
/-- the primes' rounds: the numbers from 2 on -/
def primeB (n : Int) (l : List Int) : Bool := l.all fun p => n % p != 0
def primesF : Nat → List Int
  | 0 => []
  | k + 1 => if primeB ((k : Int) + 2) (primesF k) then primesF k ++ [(k : Int) + 2] else primesF k
theorem primesF_ge (k : Nat) : ∀ x ∈ primesF k, 2 ≤ x := by
  induction k with
  | zero => intro x hx; cases hx
  | succ k ih =>
    intro x hx
    unfold primesF at hx
    split at hx
    · rcases List.mem_append.1 hx with h | h
      · exact ih x h
      · simp at h; omega
    · exact ih x hx
set_option maxHeartbeats 8000000 in
set_option maxRecDepth 100000 in
theorem primes_any (many K : Nat) (hK : ∀ j, j < K → (primesF j).length < many) (hE : (primesF K).length = many) (h1 : K ≤ 1000) (h2 : many ≤ 1000) (w : World) :
    Calls Tryd.prog 45 #[.int .i64 (many : Int)] w fun e w' => ∃ v0, e = .returned v0 ∧ Kd.R (Kd.int .i64) 3 w' w.heap.size (fun _ => True) v0 (primesF K) ∧ Below w.heap.size w w' := by
  have HK0 := Lib.hid hK
  have HE := Lib.hid hE
  clear hK hE
  go_enter Tryd.func45, Tryd.ntmps45
  go_wp2_with (first | ((with_reducible refine gate_dst (N := 8) rfl ?_); refine Kd.R_lit (Kd.int .i64) w.heap.size 3 ?hg (N := 8) ?hd (xs := ([] : List Int)) (inner := []) (ok := fun _ => True) (okp := fun _ => True) ?hr ?hp (fun _ hk => hk) trivial (Below.refl _ _) (Nat.le_refl _) (by simp) ?_; (case hd => rfl); (case hg => rfl); (case hr => first | (go_simp; done) | (go_simp; rfl)); (case hp => exact (Reps.none _ _)); intro v1 w1 HO HB hg hnew; clear hg hnew))
  have HO0 := Lib.hid (show Kd.R (Kd.int .i64) 3 w1 w.heap.size (fun _ => True) v1 (primesF 0) from HO)
  have HB0 := Lib.hid HB
  clear HO HB
  go_loopg [3, 4] K (fun kq v3 v4 w' => ∃ j : Nat, v4 = .int .i64 ((j : Int) + 2) ∧ Aside0 (kq + j = K) ∧ Aside0 (Kd.R (Kd.int .i64) 3 w' w.heap.size (fun _ => True) v3 (primesF j)) ∧ Aside0 (Below w.heap.size w w'))
  case atStart => exact ⟨0, rfl, ⟨by omega⟩, ⟨HO0.out⟩, ⟨HB0.out⟩⟩
  case round =>
    clear HO0 HB0
    obtain ⟨j, rfl, HK, HO, HB⟩ := hrel
    obtain ⟨A, c, hs⟩ := Kd.R_slice HO.out
    subst hs
    have hlj : (primesF j).length ≤ many := by
      rcases Nat.lt_or_ge j K with h | h
      · exact Nat.le_of_lt (HK0.out j h)
      · have := HK.out
        rw [show j = K by omega, HE.out]
        exact Nat.le_refl _
    cases gk with
    | zero =>
      have hj : j = K := by have := HK.out; omega
      subst hj
      have hn : ¬ (primesF j).length < many := by have := HE.out; omega
      have hd : decide ((primesF j).length < many) = false := decide_eq_false hn
      go_wp2
      go_ret
      exact ⟨_, rfl, HO.out, HB.out⟩
    | succ k1 =>
      have hlt : (primesF j).length < many := HK0.out j (by have := HK.out; omega)
      have hd : decide ((((primesF j).length : Nat) : Int) < (many : Int)) = true := decide_eq_true (by omega)
      have hj : (j : Int) ≤ 1000 := by have := HK.out; omega
      have hj0 : (0 : Int) ≤ (j : Int) := by omega
      go_wp2
      go_loopg [5, 17] (primesF j).length (fun kq v5 v17 w' => ∃ i : Nat, v17 = .int .i64 (i : Int) ∧ v5 = .bool (primeB ((j : Int) + 2) ((primesF j).take i)) ∧ Aside0 (kq + i = (primesF j).length) ∧ Aside0 (Kd.R (Kd.int .i64) 3 w' w.heap.size (fun _ => True) (.slice A (primesF j).length c) (primesF j)) ∧ Aside0 (Below w.heap.size w w'))
      case atStart => exact ⟨0, rfl, rfl, ⟨by omega⟩, ⟨HO.out⟩, ⟨HB.out⟩⟩
      case round =>
        clear HO HB
        obtain ⟨i, rfl, rfl, HI, HO, HB⟩ := hrel
        cases gk with
        | zero =>
          have hi : i = (primesF j).length := by have := HI.out; omega
          subst hi
          rw [List.take_length]
          have hd : decide ((((primesF j).length : Nat) : Int) < (((primesF j).length : Nat) : Int)) = false := decide_eq_false (by omega)
          cases hb : primeB ((j : Int) + 2) (primesF j)
          · have hs : primesF (j + 1) = primesF j := by show (if _ then _ else _) = _; rw [hb]; rfl
            go_wp2
            go_roundg k1
            case measure => omega
            case rel => exact ⟨j + 1, by simp; omega, ⟨by have := HK.out; omega⟩, ⟨hs ▸ HO.out⟩, HB⟩
          · have hs : primesF (j + 1) = primesF j ++ [(j : Int) + 2] := by show (if _ then _ else _) = _; rw [hb]; rfl
            have HS := Aside0.mk hs
            clear hs
            go_wp2_with (first | ((with_reducible refine gate_builtin (b := .append) (xs := #[.tmp 30, .tmp 32]) rfl ?_); (try (refine gate_guard (by rfl) ?_; dsimp only)); at_builtin; refine Kd.R_append (Kd.int .i64) (w0 := w) w.heap.size rfl (.tmp 30) (.tmp 32) 81 3 (.int .i64 0) 8 rfl Tryd.underlying81 info_int rfl (by decide) (by omega) (.slice A (primesF j).length c) (primesF j) ((j : Int) + 2) [.int .i64 ((j : Int) + 2)] (fun _ => True) (fun _ => False) rfl rfl ?aP (fun _ hk => hk.elim) ?aF ?aO ?aB ?aS ?aL ?_; (case aP => exact rfl); (case aB => exact HB.out); (case aF => exact (fun _ _ => trivial)); (case aO => exact HO.out); (case aS => exact (below_size HB.out)); (case aL => omega); intro v4 w4 ho hbb hg hat; rw [← HS.out] at ho; replace HO := Aside0.mk ho; replace HB := Aside0.mk hbb; clear ho hbb hg hat))
            go_roundg k1
            case measure => omega
            case rel => exact ⟨j + 1, by simp; omega, ⟨by have := HK.out; omega⟩, HO, HB⟩
        | succ k2 =>
          have hi : i < (primesF j).length := by have := HI.out; omega
          have hi0 : (0 : Int) ≤ (i : Int) := by omega
          have hi1 : (i : Int) < (((primesF j).length : Nat) : Int) := by omega
          have hi2 : (((primesF j).length : Nat) : Int) ≤ 1000 := by omega
          have hd : decide ((i : Int) < (((primesF j).length : Nat) : Int)) = true := decide_eq_true hi1
          obtain ⟨ad, rfl, hc⟩ := Kd.at_int (Kd.R_reads' HO.out).2.2 (i : Int) hi0 hi1
          rw [Int.toNat_natCast] at hc
          have hge : 2 ≤ rd (primesF j) (i : Int) := by
            have e : rd (primesF j) (i : Int) = (primesF j)[i] := by
              unfold rd
              simp [hi]
            rw [e]
            exact primesF_ge j _ (List.getElem_mem hi)
          have ht : primeB ((j : Int) + 2) ((primesF j).take (i + 1)) = (primeB ((j : Int) + 2) ((primesF j).take i) && ((j : Int) + 2) % (rd (primesF j) (i : Int)) != 0) := by
            have e1 : (primesF j).take (i + 1) = (primesF j).take i ++ [(primesF j)[i]] := by
              rw [List.take_add_one, List.getElem?_eq_getElem hi]
              rfl
            have e : rd (primesF j) (i : Int) = (primesF j)[i] := by
              unfold rd
              simp [hi]
            rw [e1, e]
            unfold primeB
            simp only [List.all_append, List.all_cons, List.all_nil, Bool.and_true]
          generalize rd (primesF j) (i : Int) = p at *
          have HT := Aside0.mk ht
          clear ht
          generalize primeB ((j : Int) + 2) ((primesF j).take i) = b at *
          have hp0 : p ≠ 0 := by omega
          cases b
          · go_wp2
            go_roundg k2
            case measure => omega
            case rel => exact ⟨i + 1, by simp, by rw [HT.out]; rfl, ⟨by have := HI.out; omega⟩, HO, HB⟩
          · go_wp2
            go_roundg k2
            case measure => omega
            case rel => exact ⟨i + 1, by simp, by rw [HT.out]; rfl, ⟨by have := HI.out; omega⟩, HO, HB⟩
end Go.Proofs.YtpbaolijacimjaaDoor

set_option linter.unusedSimpArgs false
/- THE REFERENCE's NUMBERS, FOUND BY THE KERNEL. -/
namespace Go.Proofs.YtpbaolijacimjaaDoor
open Go.RowKit Go.Proofs.YtpbaolijacimjaaDoorW.PrintWords
def ps64 : List Int := [2, 3, 5, 7, 11, 13, 17, 19, 23, 29, 31, 37, 41, 43, 47, 53, 59, 61, 67, 71, 73, 79, 83, 89, 97, 101, 103, 107, 109, 113, 127, 131, 137, 139, 149, 151, 157, 163, 167, 173, 179, 181, 191, 193, 197, 199, 211, 223, 227, 229, 233, 239, 241, 251, 257, 263, 269, 271, 277, 281, 283, 293, 307, 311]
def ps8 : List Int := [2, 3, 5, 7, 11, 13, 17, 19]
def ks64 : List Int := keyL.map fun n => ((n : Nat) : Int)
def ks8 : List Int := (List.range 8).map fun j => un (ivF j)
set_option maxRecDepth 100000
theorem ps64_is : primesF 310 = ps64 := by decide +kernel
theorem ps8_is : primesF 18 = ps8 := by decide +kernel
theorem ps64_go : ∀ j, j < 310 → (primesF j).length < 64 := by decide +kernel
theorem ps8_go : ∀ j, j < 18 → (primesF j).length < 8 := by decide +kernel
theorem roots8 : ∀ i : Nat, i < 8 → PDigestSums.demurralref03_root.f 400 (rd ps8 (i : Int)) false = some (rd ks8 (i : Int)) := by decide +kernel
theorem root_0 : PDigestSums.demurralref03_root.f 400 2 true = some 1116352408 := by decide +kernel
theorem root_1 : PDigestSums.demurralref03_root.f 400 3 true = some 1899447441 := by decide +kernel
theorem root_2 : PDigestSums.demurralref03_root.f 400 5 true = some 3049323471 := by decide +kernel
theorem root_3 : PDigestSums.demurralref03_root.f 400 7 true = some 3921009573 := by decide +kernel
theorem root_4 : PDigestSums.demurralref03_root.f 400 11 true = some 961987163 := by decide +kernel
theorem root_5 : PDigestSums.demurralref03_root.f 400 13 true = some 1508970993 := by decide +kernel
theorem root_6 : PDigestSums.demurralref03_root.f 400 17 true = some 2453635748 := by decide +kernel
theorem root_7 : PDigestSums.demurralref03_root.f 400 19 true = some 2870763221 := by decide +kernel
theorem root_8 : PDigestSums.demurralref03_root.f 400 23 true = some 3624381080 := by decide +kernel
theorem root_9 : PDigestSums.demurralref03_root.f 400 29 true = some 310598401 := by decide +kernel
theorem root_10 : PDigestSums.demurralref03_root.f 400 31 true = some 607225278 := by decide +kernel
theorem root_11 : PDigestSums.demurralref03_root.f 400 37 true = some 1426881987 := by decide +kernel
theorem root_12 : PDigestSums.demurralref03_root.f 400 41 true = some 1925078388 := by decide +kernel
theorem root_13 : PDigestSums.demurralref03_root.f 400 43 true = some 2162078206 := by decide +kernel
theorem root_14 : PDigestSums.demurralref03_root.f 400 47 true = some 2614888103 := by decide +kernel
theorem root_15 : PDigestSums.demurralref03_root.f 400 53 true = some 3248222580 := by decide +kernel
theorem root_16 : PDigestSums.demurralref03_root.f 400 59 true = some 3835390401 := by decide +kernel
theorem root_17 : PDigestSums.demurralref03_root.f 400 61 true = some 4022224774 := by decide +kernel
theorem root_18 : PDigestSums.demurralref03_root.f 400 67 true = some 264347078 := by decide +kernel
theorem root_19 : PDigestSums.demurralref03_root.f 400 71 true = some 604807628 := by decide +kernel
theorem root_20 : PDigestSums.demurralref03_root.f 400 73 true = some 770255983 := by decide +kernel
theorem root_21 : PDigestSums.demurralref03_root.f 400 79 true = some 1249150122 := by decide +kernel
theorem root_22 : PDigestSums.demurralref03_root.f 400 83 true = some 1555081692 := by decide +kernel
theorem root_23 : PDigestSums.demurralref03_root.f 400 89 true = some 1996064986 := by decide +kernel
theorem root_24 : PDigestSums.demurralref03_root.f 400 97 true = some 2554220882 := by decide +kernel
theorem root_25 : PDigestSums.demurralref03_root.f 400 101 true = some 2821834349 := by decide +kernel
theorem root_26 : PDigestSums.demurralref03_root.f 400 103 true = some 2952996808 := by decide +kernel
theorem root_27 : PDigestSums.demurralref03_root.f 400 107 true = some 3210313671 := by decide +kernel
theorem root_28 : PDigestSums.demurralref03_root.f 400 109 true = some 3336571891 := by decide +kernel
theorem root_29 : PDigestSums.demurralref03_root.f 400 113 true = some 3584528711 := by decide +kernel
theorem root_30 : PDigestSums.demurralref03_root.f 400 127 true = some 113926993 := by decide +kernel
theorem root_31 : PDigestSums.demurralref03_root.f 400 131 true = some 338241895 := by decide +kernel
theorem root_32 : PDigestSums.demurralref03_root.f 400 137 true = some 666307205 := by decide +kernel
theorem root_33 : PDigestSums.demurralref03_root.f 400 139 true = some 773529912 := by decide +kernel
theorem root_34 : PDigestSums.demurralref03_root.f 400 149 true = some 1294757372 := by decide +kernel
theorem root_35 : PDigestSums.demurralref03_root.f 400 151 true = some 1396182291 := by decide +kernel
theorem root_36 : PDigestSums.demurralref03_root.f 400 157 true = some 1695183700 := by decide +kernel
theorem root_37 : PDigestSums.demurralref03_root.f 400 163 true = some 1986661051 := by decide +kernel
theorem root_38 : PDigestSums.demurralref03_root.f 400 167 true = some 2177026350 := by decide +kernel
theorem root_39 : PDigestSums.demurralref03_root.f 400 173 true = some 2456956037 := by decide +kernel
theorem root_40 : PDigestSums.demurralref03_root.f 400 179 true = some 2730485921 := by decide +kernel
theorem root_41 : PDigestSums.demurralref03_root.f 400 181 true = some 2820302411 := by decide +kernel
theorem root_42 : PDigestSums.demurralref03_root.f 400 191 true = some 3259730800 := by decide +kernel
theorem root_43 : PDigestSums.demurralref03_root.f 400 193 true = some 3345764771 := by decide +kernel
theorem root_44 : PDigestSums.demurralref03_root.f 400 197 true = some 3516065817 := by decide +kernel
theorem root_45 : PDigestSums.demurralref03_root.f 400 199 true = some 3600352804 := by decide +kernel
theorem root_46 : PDigestSums.demurralref03_root.f 400 211 true = some 4094571909 := by decide +kernel
theorem root_47 : PDigestSums.demurralref03_root.f 400 223 true = some 275423344 := by decide +kernel
theorem root_48 : PDigestSums.demurralref03_root.f 400 227 true = some 430227734 := by decide +kernel
theorem root_49 : PDigestSums.demurralref03_root.f 400 229 true = some 506948616 := by decide +kernel
theorem root_50 : PDigestSums.demurralref03_root.f 400 233 true = some 659060556 := by decide +kernel
theorem root_51 : PDigestSums.demurralref03_root.f 400 239 true = some 883997877 := by decide +kernel
theorem root_52 : PDigestSums.demurralref03_root.f 400 241 true = some 958139571 := by decide +kernel
theorem root_53 : PDigestSums.demurralref03_root.f 400 251 true = some 1322822218 := by decide +kernel
theorem root_54 : PDigestSums.demurralref03_root.f 400 257 true = some 1537002063 := by decide +kernel
theorem root_55 : PDigestSums.demurralref03_root.f 400 263 true = some 1747873779 := by decide +kernel
theorem root_56 : PDigestSums.demurralref03_root.f 400 269 true = some 1955562222 := by decide +kernel
theorem root_57 : PDigestSums.demurralref03_root.f 400 271 true = some 2024104815 := by decide +kernel
theorem root_58 : PDigestSums.demurralref03_root.f 400 277 true = some 2227730452 := by decide +kernel
theorem root_59 : PDigestSums.demurralref03_root.f 400 281 true = some 2361852424 := by decide +kernel
theorem root_60 : PDigestSums.demurralref03_root.f 400 283 true = some 2428436474 := by decide +kernel
theorem root_61 : PDigestSums.demurralref03_root.f 400 293 true = some 2756734187 := by decide +kernel
theorem root_62 : PDigestSums.demurralref03_root.f 400 307 true = some 3204031479 := by decide +kernel
theorem root_63 : PDigestSums.demurralref03_root.f 400 311 true = some 3329325298 := by decide +kernel
theorem roots64 : ∀ i : Nat, i < 64 → PDigestSums.demurralref03_root.f 400 (rd ps64 (i : Int)) true = some (rd ks64 (i : Int))
  | 0, _ => root_0
  | 1, _ => root_1
  | 2, _ => root_2
  | 3, _ => root_3
  | 4, _ => root_4
  | 5, _ => root_5
  | 6, _ => root_6
  | 7, _ => root_7
  | 8, _ => root_8
  | 9, _ => root_9
  | 10, _ => root_10
  | 11, _ => root_11
  | 12, _ => root_12
  | 13, _ => root_13
  | 14, _ => root_14
  | 15, _ => root_15
  | 16, _ => root_16
  | 17, _ => root_17
  | 18, _ => root_18
  | 19, _ => root_19
  | 20, _ => root_20
  | 21, _ => root_21
  | 22, _ => root_22
  | 23, _ => root_23
  | 24, _ => root_24
  | 25, _ => root_25
  | 26, _ => root_26
  | 27, _ => root_27
  | 28, _ => root_28
  | 29, _ => root_29
  | 30, _ => root_30
  | 31, _ => root_31
  | 32, _ => root_32
  | 33, _ => root_33
  | 34, _ => root_34
  | 35, _ => root_35
  | 36, _ => root_36
  | 37, _ => root_37
  | 38, _ => root_38
  | 39, _ => root_39
  | 40, _ => root_40
  | 41, _ => root_41
  | 42, _ => root_42
  | 43, _ => root_43
  | 44, _ => root_44
  | 45, _ => root_45
  | 46, _ => root_46
  | 47, _ => root_47
  | 48, _ => root_48
  | 49, _ => root_49
  | 50, _ => root_50
  | 51, _ => root_51
  | 52, _ => root_52
  | 53, _ => root_53
  | 54, _ => root_54
  | 55, _ => root_55
  | 56, _ => root_56
  | 57, _ => root_57
  | 58, _ => root_58
  | 59, _ => root_59
  | 60, _ => root_60
  | 61, _ => root_61
  | 62, _ => root_62
  | 63, _ => root_63
  | n + 64, h => absurd h (by omega)
end Go.Proofs.YtpbaolijacimjaaDoor

set_option linter.unusedSimpArgs false
/- THE REFERENCE's MIX IS THE PROGRAM's. -/
namespace Go.Proofs.YtpbaolijacimjaaDoor
open Go.RowKit Go.Proofs.YtpbaolijacimjaaDoorW.PrintWords Go.Proofs.YtpbaolijacimjaaDoorW.PrintLast Go.Proofs.YtpbaolijacimjaaDoorW.PrintMore
open PDigestSums
theorem ror_f (x : W32) (n : Nat) (h0 : 0 < n) (h1 : n < 32) : demurralref03_ror.f (un x) (n : Int) = some (un (ror x n)) := by
  unfold demurralref03_ror.f
  rw [if_pos (by omega)]
  have e1 : shr .u32 (un x) (n : Int) = un (x >>> n) := by
    unfold shr
    rw [Int.toNat_natCast, Nat.min_eq_left (by show n ≤ 32; omega)]
    exact un_shr x n
  have e2 : shl .u32 (un x) ((32 - (n : Int)) % 4294967296) = un (x <<< (32 - n)) := by
    unfold shl
    rw [show ((32 - (n : Int)) % 4294967296).toNat = 32 - n by omega, Nat.min_eq_left (by show 32 - n ≤ 32; omega)]
    exact un_shl x _
  rw [e1, e2]
  exact congrArg some (un_or _ _)
def ls8 (f : Nat → W32) : List Int := [un (f 0), un (f 1), un (f 2), un (f 3), un (f 4), un (f 5), un (f 6), un (f 7)]
def lw (f v : Nat → W32) (t : Nat) : List Int := (List.range t).map (fun j => un (Wd f v j))
theorem lw_succ (f v : Nat → W32) (t : Nat) : lw f v (t + 1) = lw f v t ++ [un (Wd f v t)] := by unfold lw; rw [List.range_succ, List.map_append]; rfl
theorem lw_len (f v : Nat → W32) (t : Nat) : (lw f v t).length = t := by unfold lw; simp
theorem lw_rd (f v : Nat → W32) (t j : Nat) (h : j < t) : rd (lw f v t) (j : Int) = un (Wd f v j) := by
  unfold rd lw
  rw [Int.toNat_natCast, List.getD_eq_getElem?_getD, List.getElem?_map, List.getElem?_range h]; rfl
theorem bt_N (b : ByteArray) (k : Nat) (h : k < b.size) : bt b (k : Int) = ((b.data.getD k 0).toNat : Int) := by
  unfold bt
  rw [dif_pos (by rw [Int.toNat_natCast]; exact h), getD_at b k h]
  simp only [Int.toNat_natCast]
theorem w64 (n : Nat) (h : n < 1000) : wrap64 (n : Int) = (n : Int) := by unfold wrap64; omega
theorem word_low (b : ByteArray) (hb : b.size = 64) (l : List Int) (t : Nat) (ht : t < 16) : demurralref03_word.f l b (t : Int) = some (un (ldF b 64 t)) := by
  unfold demurralref03_word.f
  have e0 : wrap64 (4 * (t : Int)) = ((4 * t : Nat) : Int) := by unfold wrap64; omega
  have e1 : wrap64 (((4 * t : Nat) : Int) + 1) = ((4 * t + 1 : Nat) : Int) := by unfold wrap64; omega
  have e2 : wrap64 (((4 * t : Nat) : Int) + 2) = ((4 * t + 2 : Nat) : Int) := by unfold wrap64; omega
  have e3 : wrap64 (((4 * t : Nat) : Int) + 3) = ((4 * t + 3 : Nat) : Int) := by unfold wrap64; omega
  rw [if_pos (by omega), e0, e1, e2, e3, hb, if_pos (by omega), if_pos (by omega), if_pos (by omega), if_pos (by omega), if_pos (by omega), if_pos (by omega), if_pos (by omega), if_pos (by omega),
    bt_N b _ (by omega), bt_N b _ (by omega), bt_N b _ (by omega), bt_N b _ (by omega)]
  refine congrArg some ?_
  unfold un
  rw [ld_N b t ht]
  unfold w4
  have b0 := (b.data.getD (4 * t) 0).toNat_lt
  have b1 := (b.data.getD (4 * t + 1) 0).toNat_lt
  have b2 := (b.data.getD (4 * t + 2) 0).toNat_lt
  have b3 := (b.data.getD (4 * t + 3) 0).toNat_lt
  omega
theorem word_f (v : Nat → W32) (b : ByteArray) (hb : b.size = 64) (t : Nat) (ht : t < 64) : demurralref03_word.f (lw (ldF b 64) v t) b (t : Int) = some (un (Wd (ldF b 64) v t)) := by
  by_cases h : t < 16
  · rw [Wd_low _ _ _ h]
    exact word_low b hb _ t h
  obtain ⟨s, rfl⟩ : ∃ s, t = s + 16 := ⟨t - 16, by omega⟩
  rw [Wd_high]
  generalize ldF b 64 = f
  have l := lw_len f v (s + 16)
  have r0 := lw_rd f v (s + 16) s (by omega)
  have r1 := lw_rd f v (s + 16) (s + 1) (by omega)
  have r9 := lw_rd f v (s + 16) (s + 9) (by omega)
  have r14 := lw_rd f v (s + 16) (s + 14) (by omega)
  unfold demurralref03_word.f
  generalize lw f v (s + 16) = L at *
  have e0 : wrap64 (((s + 16 : Nat) : Int) - 15) = ((s + 1 : Nat) : Int) := by unfold wrap64; omega
  have e1 : wrap64 (((s + 16 : Nat) : Int) - 2) = ((s + 14 : Nat) : Int) := by unfold wrap64; omega
  have e2 : wrap64 (((s + 16 : Nat) : Int) - 7) = ((s + 9 : Nat) : Int) := by unfold wrap64; omega
  have e3 : wrap64 (((s + 16 : Nat) : Int) - 16) = ((s : Nat) : Int) := by unfold wrap64; omega
  have q1 := ror_f (Wd f v (s + 14)) 17 (by decide) (by decide)
  have q2 := ror_f (Wd f v (s + 14)) 19 (by decide) (by decide)
  have q3 := ror_f (Wd f v (s + 1)) 7 (by decide) (by decide)
  have q4 := ror_f (Wd f v (s + 1)) 18 (by decide) (by decide)
  rw [if_neg (by omega), e0, e1, e2, e3, l, r0, r1, r9, r14, if_pos (by omega), if_pos (by omega), if_pos (by omega), if_pos (by omega), show demurralref03_ror.f (un (Wd f v (s + 14))) 17 = _ from q1, Option.bind_some, show demurralref03_ror.f (un (Wd f v (s + 14))) 19 = _ from q2, Option.bind_some, if_pos (by omega), if_pos (by omega),
    show demurralref03_ror.f (un (Wd f v (s + 1))) 7 = _ from q3, Option.bind_some, show demurralref03_ror.f (un (Wd f v (s + 1))) 18 = _ from q4, Option.bind_some, if_pos (by omega), if_pos (by omega)]
  refine congrArg some ?_
  simp only [un_xor, un_shr3, un_shr10, un_add]
  rfl
theorem ch_eq (e f g : W32) : (e &&& f) ^^^ (~~~e &&& g) = g ^^^ e &&& (f ^^^ g) := by
  ext i hi
  simp only [BitVec.getElem_xor, BitVec.getElem_and, BitVec.getElem_not]
  cases e[i] <;> cases f[i] <;> cases g[i] <;> rfl
theorem maj_eq (a b c : W32) : (a &&& b) ^^^ (a &&& c) ^^^ (b &&& c) = a &&& b ||| c &&& (a ||| b) := by
  ext i hi
  simp only [BitVec.getElem_xor, BitVec.getElem_and, BitVec.getElem_or]
  cases a[i] <;> cases b[i] <;> cases c[i] <;> rfl
theorem un_not (e : W32) : (4294967295 - un e) % 4294967296 = un (~~~e) := by
  unfold un
  rw [BitVec.toNat_not]
  have := e.isLt
  omega
theorem keys_rd (t : Nat) (h : t < 64) : rd (keyL.map fun n => ((n : Nat) : Int)) (t : Int) = un (keyF t) := by
  unfold rd un
  rw [keyF_N t h, Int.toNat_natCast, List.getD_eq_getElem?_getD, List.getD_eq_getElem?_getD, List.getElem?_map]
  have hl : t < keyL.length := by rw [keyL_len]; omega
  rw [List.getElem?_eq_getElem hl]
  rfl
set_option maxHeartbeats 2000000 in
theorem mix_l0 (v : Nat → W32) (b : ByteArray) (hb : b.size = 64) (l1 : List Int) : ∀ n t, t + n = 64 → ∀ k, n < k →
    demurralref03_Mix.l0 k (ls8 v) b (lw (ldF b 64) v t) (un (Sd (ldF b 64) v t 0)) (un (Sd (ldF b 64) v t 1)) (un (Sd (ldF b 64) v t 2)) (un (Sd (ldF b 64) v t 3)) (un (Sd (ldF b 64) v t 4)) (un (Sd (ldF b 64) v t 5)) (un (Sd (ldF b 64) v t 6)) (un (Sd (ldF b 64) v t 7)) (t : Int) (keyL.map fun n => ((n : Nat) : Int)) l1 = some (ls8 (mixF v b)) := by
  intro n
  induction n with
  | zero =>
    intro t ht k hk
    obtain rfl : t = 64 := by omega
    cases k with
    | zero => omega
    | succ k =>
      unfold demurralref03_Mix.l0
      rw [if_neg (by omega)]
      have hl : ((ls8 v).length : Int) = 8 := rfl
      rw [hl, if_pos (by decide), if_pos (by decide), if_pos (by decide), if_pos (by decide), if_pos (by decide), if_pos (by decide), if_pos (by decide), if_pos (by decide)]
      refine congrArg some ?_
      have r : ∀ j, (un (v j) + un (Sd (ldF b 64) v 64 j)) % 4294967296 = un (mixF v b j) := fun j => un_add _ _
      show [_, _, _, _, _, _, _, _] = _
      unfold ls8
      rw [← r 0, ← r 1, ← r 2, ← r 3, ← r 4, ← r 5, ← r 6, ← r 7]
      rfl
  | succ n ih =>
    intro t ht k hk
    cases k with
    | zero => omega
    | succ k =>
      have ih := ih (t + 1) (by omega) k (by omega)
      unfold demurralref03_Mix.l0
      have hy : rd (lw (ldF b 64) v t ++ [un (Wd (ldF b 64) v t)]) (t : Int) = un (Wd (ldF b 64) v t) := by rw [← lw_succ]; exact lw_rd _ _ _ _ (by omega)
      have hw1 : wrap64 ((t : Int) + 1) = ((t + 1 : Nat) : Int) := by unfold wrap64; omega
      have hkl : ((keyL.map fun n => ((n : Nat) : Int)).length : Int) = 64 := by rw [List.length_map, keyL_len]; rfl
      have q1 := fun x => ror_f x 6 (by decide) (by decide)
      have q2 := fun x => ror_f x 11 (by decide) (by decide)
      have q3 := fun x => ror_f x 25 (by decide) (by decide)
      have q4 := fun x => ror_f x 2 (by decide) (by decide)
      have q5 := fun x => ror_f x 13 (by decide) (by decide)
      have q6 := fun x => ror_f x 22 (by decide) (by decide)
      rw [if_pos (by omega), word_f v b hb t (by omega), Option.bind_some, lw_len, if_pos (by omega), Option.bind_some,
        show demurralref03_ror.f (un (Sd (ldF b 64) v t 4)) 6 = _ from q1 _, Option.bind_some, show demurralref03_ror.f (un (Sd (ldF b 64) v t 4)) 11 = _ from q2 _, Option.bind_some, show demurralref03_ror.f (un (Sd (ldF b 64) v t 4)) 25 = _ from q3 _, Option.bind_some,
        if_pos (by omega), hkl, if_pos (by omega), if_pos (by rw [List.length_append, lw_len]; show (t : Int) < ((t + 1 : Nat) : Int); omega), show demurralref03_ror.f (un (Sd (ldF b 64) v t 0)) 2 = _ from q4 _, Option.bind_some, show demurralref03_ror.f (un (Sd (ldF b 64) v t 0)) 13 = _ from q5 _, Option.bind_some, show demurralref03_ror.f (un (Sd (ldF b 64) v t 0)) 22 = _ from q6 _, Option.bind_some,
        hy, keys_rd t (by omega), hw1, ← lw_succ]
      simp only [un_not, un_xor, un_and, un_add, ch_eq, maj_eq]
      rw [Sd_succ] at ih
      exact ih
theorem Mix_f (v : Nat → W32) (b : ByteArray) (hb : b.size = 64) (l1 : List Int) : demurralref03_Mix.f 100 (keyL.map fun n => ((n : Nat) : Int)) l1 (ls8 v) b = some (ls8 (mixF v b)) := by
  unfold demurralref03_Mix.f
  have hl : ((ls8 v).length : Int) = 8 := rfl
  rw [hl, if_pos (by decide), if_pos (by decide), if_pos (by decide), if_pos (by decide), if_pos (by decide), if_pos (by decide), if_pos (by decide), if_pos (by decide)]
  exact mix_l0 v b hb l1 64 0 rfl 100 (by omega)
end Go.Proofs.YtpbaolijacimjaaDoor

set_option linter.unusedSimpArgs false
/- THE REFERENCE's SUMS. -/
namespace Go.Proofs.YtpbaolijacimjaaDoor
open Go.RowKit Go.Proofs.YtpbaolijacimjaaDoorW.PrintWords
theorem ks64_eq : ks64 = keyL.map fun n => ((n : Nat) : Int) := rfl
theorem ks8_eq : ks8 = ls8 ivF := rfl
theorem ks64_len : ks64.length = 64 := rfl
theorem ls8_len (f : Nat → W32) : (ls8 f).length = 8 := rfl
theorem ls8_get (f : Nat → W32) (j : Nat) (p : Int) (h : (ls8 f)[j]? = some p) : j < 8 ∧ p = un (f j) := by
  have hl : j < 8 := (List.getElem?_eq_some_iff.1 h).1
  have : j = 0 ∨ j = 1 ∨ j = 2 ∨ j = 3 ∨ j = 4 ∨ j = 5 ∨ j = 6 ∨ j = 7 := by omega
  refine ⟨hl, ?_⟩
  rcases this with rfl | rfl | rfl | rfl | rfl | rfl | rfl | rfl <;> exact (Option.some.inj h).symm
/-- eight words, as a row that is read -/
theorem Row8.C {w : World} {A : Option Addr} {f : Nat → W32} (h : Row8 w A f) : Kd.C (Kd.int .u32) w A 8 (ls8 f) := by
  obtain ⟨ad, rfl, h⟩ := h
  refine ⟨rfl, by decide, fun _ => ⟨ad, rfl, fun j p hj => ?_⟩⟩
  obtain ⟨hl, rfl⟩ := ls8_get f j p hj
  refine ⟨[.int .u32 (un (f j))], rfl, rfl, fun i u hu => ?_⟩
  rcases i with _ | i
  · obtain rfl : Value.int .u32 (un (f j)) = u := by simpa using hu
    have := h j hl
    rw [show j * (Kd.int .u32).sz + 0 = j by show j * 1 + 0 = j; omega]
    exact this
  · simp at hu
theorem Row8.of {w : World} {A : Option Addr} {f : Nat → W32} (h : Kd.C (Kd.int .u32) w A 8 (ls8 f)) : Row8 w A f := by
  obtain ⟨ad, rfl, hc⟩ := h.2.2 (by decide)
  refine ⟨ad, rfl, fun j hj => ?_⟩
  have hg : (ls8 f)[j]? = some (un (f j)) := by
    have : j = 0 ∨ j = 1 ∨ j = 2 ∨ j = 3 ∨ j = 4 ∨ j = 5 ∨ j = 6 ∨ j = 7 := by omega
    rcases this with rfl | rfl | rfl | rfl | rfl | rfl | rfl | rfl <;> rfl
  obtain ⟨cs, hs, hk, hcell⟩ := hc j _ hg
  have hk : cs = [.int .u32 (un (f j))] := hk
  subst hk
  have := hcell 0 _ rfl
  rw [show j * (Kd.int .u32).sz + 0 = j by show j * 1 + 0 = j; omega] at this
  exact this
/-- what is no cell of a block does not lie in it -/
theorem cell_keep {w w1 : World} {a : Addr} {v : Value} {g : Nat} {cs : Array Value} {t : TypeId} {fr : Nat × Nat} (h : w.cell? a = some v) (hb : w.heap[g]? = some (.cells cs t fr)) (hv : v ∉ cs) (hs : ∀ i, i ≠ g → w1.heap[i]? = w.heap[i]?) : w1.cell? a = some v := by
  unfold World.cell? at *
  by_cases he : a.block = g
  · rw [he, hb] at h
    exfalso
    simp only at h
    split at h
    · cases h
    · exact hv (Array.mem_of_getElem? h)
  · rw [hs _ he]; exact h
theorem Row8.keep {w w1 : World} {A : Option Addr} {f : Nat → W32} (h : Row8 w A f) {g : Nat} {cs : Array Value} {t : TypeId} {fr : Nat × Nat} (hb : w.heap[g]? = some (.cells cs t fr)) (hv : ∀ n, Value.int .u32 n ∉ cs) (hs : ∀ i, i ≠ g → w1.heap[i]? = w.heap[i]?) : Row8 w1 A f := by
  obtain ⟨ad, rfl, h⟩ := h
  exact ⟨ad, rfl, fun j hj => cell_keep (h j hj) hb (hv _) hs⟩
theorem C32_keep {w w1 : World} {A : Option Addr} {n : Nat} {xs : List Int} (h : Kd.C (Kd.int .u32) w A n xs) {g : Nat} {cs : Array Value} {t : TypeId} {fr : Nat × Nat} (hb : w.heap[g]? = some (.cells cs t fr)) (hv : ∀ n, Value.int .u32 n ∉ cs) (hs : ∀ i, i ≠ g → w1.heap[i]? = w.heap[i]?) : Kd.C (Kd.int .u32) w1 A n xs := by
  refine ⟨h.1, h.2.1, fun hn => ?_⟩
  obtain ⟨ad, rfl, hc⟩ := h.2.2 hn
  refine ⟨ad, rfl, fun j p hj => ?_⟩
  obtain ⟨cs', hl, hk, hcell⟩ := hc j p hj
  have hk' : cs' = [.int .u32 p] := hk
  subst hk'
  refine ⟨_, hl, hk, fun i u hu => ?_⟩
  have := hcell i u hu
  rcases i with _ | i
  · obtain rfl : Value.int .u32 p = u := by simpa using hu
    exact cell_keep this hb (hv _) hs
  · simp at hu
theorem set_other (w : World) (g : Nat) (j : Nat) (v : Value) : ∀ i, i ≠ g → (w.setCell ⟨g, j, none⟩ v).heap[i]? = w.heap[i]? := fun _ hi => Below.heap_setCell w _ _ _ hi
/-- the numbers -/
def kV (A1 : Option Addr) (c1 : Nat) (A2 : Option Addr) (c2 : Nat) : Value := .agg #[.slice A1 64 c1, .slice A2 8 c2]
structure KAt (w : World) (A1 : Option Addr) (c1 : Nat) (A2 : Option Addr) (c2 : Nat) : Prop where
  ks : Kd.C (Kd.int .u32) w A1 64 ks64
  h1 : 64 ≤ c1
  iv : Row8 w A2 ivF
  h2 : 8 ≤ c2
theorem KAt.keep {w w1 : World} {A1 : Option Addr} {c1 : Nat} {A2 : Option Addr} {c2 : Nat} (h : KAt w A1 c1 A2 c2) {g : Nat} {cs : Array Value} {t : TypeId} {fr : Nat × Nat} (hb : w.heap[g]? = some (.cells cs t fr)) (hv : ∀ n, Value.int .u32 n ∉ cs) (hs : ∀ i, i ≠ g → w1.heap[i]? = w.heap[i]?) : KAt w1 A1 c1 A2 c2 := ⟨C32_keep h.ks hb hv hs, h.h1, h.iv.keep hb hv hs, h.h2⟩
theorem KAt.up {w w1 : World} {A1 : Option Addr} {c1 : Nat} {A2 : Option Addr} {c2 : Nat} (h : KAt w A1 c1 A2 c2) (hg : Gr w w1) : KAt w1 A1 c1 A2 c2 := ⟨Kd.C_below h.ks hg, h.h1, h.iv.up hg, h.h2⟩
/-- eight words are answered -/
def RowR (f : Nat → W32) (e : Ending) (w : World) : Prop := ∃ A c, 8 ≤ c ∧ e = .returned (.slice A 8 c) ∧ Row8 w A f
/-- a sum on its way is answered -/
def HashS (f : Nat → W32) (rest : ByteArray) (m : Nat) (e : Ending) (w : World) : Prop := ∃ A c, 8 ≤ c ∧ e = .returned (hashV A 8 c rest m) ∧ Row8 w A f
attribute [local irreducible] Calls mixF
theorem RMix_any (A1 : Option Addr) (c1 : Nat) (A2 : Option Addr) (c2 : Nat) (A : Option Addr) (c : Nat) (f : Nat → W32) (b : ByteArray) (w : World) (hK : KAt w A1 c1 A2 c2) (hR : Row8 w A f) (hc : 8 ≤ c) (hb : b.size = 64) :
    Calls Tryd.prog 87 #[kV A1 c1 A2 c2, .slice A 8 c, .string b] w fun e w' => RowR (mixF f b) e w' ∧ Below w.heap.size w w' := by
  refine (PDigestSums.demurralref03_Mix.calls 100 A1 c1 ks64 A2 c2 (ls8 ivF) A c (ls8 f) b (ls8 (mixF f b)) w hK.ks hK.h1 hK.iv.C hK.h2 hR.C hc (Mix_f f b hb _)).mono ?_
  rintro e w' ⟨v0, rfl, hv, hb⟩
  obtain ⟨A', c', rfl⟩ := Kd.R_slice hv
  have h3 := Kd.R_reads' hv
  exact ⟨⟨A', c', h3.2.1, rfl, Row8.of h3.2.2⟩, hb⟩
set_option maxHeartbeats 4000000 in
set_option maxRecDepth 100000 in
theorem RWrite_any (A1 : Option Addr) (c1 : Nat) (A2 : Option Addr) (c2 : Nat) (A : Option Addr) (c : Nat) (f : Nat → W32) (rest s : ByteArray) (m : Nat) (w : World) (hK : KAt w A1 c1 A2 c2) (hR : Row8 w A f) (hc : 8 ≤ c) (h1 : rest.size ≤ 1000) (h2 : s.size ≤ 100000) :
    Calls Tryd.prog 63 #[kV A1 c1 A2 c2, hashV A 8 c rest m, .string s] w fun e w' => HashS (wordsF f (rest ++ s)) (leftF (rest ++ s)) (addM m s.size) e w' ∧ Below w.heap.size w w' := by
  have HK := Lib.hid hK
  clear hK
  have HM := Lib.hid (fun A c f b w hK hR hc hb => RMix_any A1 c1 A2 c2 A c f b w hK hR hc hb)
  unfold hashV kV at *
  go_enter Tryd.func63, Tryd.ntmps63
  have HO := (((Own.start w).alloc' (.cells #[.slice A1 64 c1, .slice A2 8 c2] 33) rfl).alloc' (.cells (hashC A 8 c rest m) 98) (by simp : _ = w.heap.size + 1)).alloc' (.cells #[.slice none 0 0, .string ⟨#[]⟩, .int .u64 0] 98) (by simp : _ = w.heap.size + 2)
  unfold hashC at HO
  have hcat : ¬ (rest.size + s.size > 9223372036854775807) := by omega
  have hR := ((hR.up (below_alloc (Below.refl _ _) (.cells #[.slice A1 64 c1, .slice A2 8 c2] 33))).up (below_alloc (Below.refl _ _) (.cells (hashC A 8 c rest m) 98))).up (below_alloc (Below.refl _ _) (.cells #[.slice none 0 0, .string ⟨#[]⟩, .int .u64 0] 98))
  unfold hashC at hR
  have HR := Lib.hid hR
  clear hR
  go_wp2_with fail
  have hall : (rest ++ s).size ≤ 101000 := by rw [ByteArray.size_append]; omega
  generalize hra : rest ++ s = all at *
  have HA := Lib.hid hra
  clear hra hcat
  go_loopw [7, 8] (fun c7 c8 wr => ∃ (k : Nat) (A' : Option Addr) (c' : Nat), c7 = .string (all.extract (64 * k) all.size) ∧ c8 = .slice A' 8 c' ∧ Aside0 (64 * k ≤ all.size ∧ 8 ≤ c' ∧ Row8 wr A' (foldF f all k)) ∧ Own w [(w.heap.size + 2, .cells #[.slice none 0 0, .string ⟨#[]⟩, .int .u64 0] 98 (0, 0)), (w.heap.size + 1, .cells #[.slice A 8 c, .string rest, .int .u64 (m : Int)] 98 (0, 0)), (w.heap.size, .cells #[.slice A1 64 c1, .slice A2 8 c2] 33 (0, 0))] wr) (fun c1 _ _ => strLen c1)
  case atStart => exact ⟨0, A, c, by rw [Nat.mul_zero]; rw [ByteArray.extract_zero_size], rfl, ⟨by omega, hc, HR.out⟩, HO⟩
  case round =>
    clear HO HR
    obtain ⟨k, A', c', rfl, rfl, Hk, HO⟩ := hrel
    by_cases hlt : 64 * k + 64 ≤ all.size
    · have hxs := ext_size all (64 * k)
      have hbk := Lib.hid (ext_take all (64 * k) hlt)
      have hdr := Lib.hid (ext_drop all (64 * k))
      have h64 : (64 : Int) ≤ ((all.extract (64 * k) all.size).size : Int) := by omega
      have h00 : (0 : Int) ≤ ((all.extract (64 * k) all.size).size : Int) := by omega
      have hms : strLen (.string (all.extract (64 * k + 64) all.size)) < strLen (.string (all.extract (64 * k) all.size)) := by
        have := ext_size all (64 * k + 64)
        show (all.extract (64 * k + 64) all.size).size < (all.extract (64 * k) all.size).size
        omega
      clear hxs
      generalize all.extract (64 * k) all.size = x at *
      have hx : (x.extract 0 64).size = 64 := by rw [ByteArray.size_extract]; omega
      have HX := Lib.hid hx
      clear hx
      go_wp2_with fail
      refine bstart (fun w => w.heap.size) (n := 6) (ds := []) #[false, false, false, false, false, false] (by kernel_rfl) rfl rfl (Nat.le_refl _) (fun HBS => ?_)
      refine bseq (m := 2) (.inl rfl) [(1, true, some 19), (2, true, some 20), (3, true, some 21), (0, true, some 18)] #[true, true, true, true, false, false] HBS (by kernel_rfl) rfl (fun _ _ _ _ _ h => h) ?_
      repeat (first
        | (refine sP (v := ?_) (a' := ?_) rfl rfl (by rfl) ?_ ?_ ?_; rotate_left 2; (· intro w'; go_simp; with_reducible rfl); (· simp only [Act.put, List.setIfInBounds_toArray, List.set_cons_zero, List.set_cons_succ, kw64, kw32]; rfl))
        | (refine sB (v := ?_) (a' := ?_) rfl rfl (by rfl) ?_ ?_ ?_; rotate_left 2; (· intro w1 hg; have c0 := (HO.up hg).cell 2 rfl; have c00 := (HO.up hg).blk 2 rfl; (first | (go_simp; with_reducible rfl) | (refine Eq.trans (run_load_row 33 (.tmp 3) rfl w.heap.size (by rfl) _ #[.slice A1 64 c1, .slice A2 8 c2] _ _ ((HO.up hg).blk 2 rfl) Tryd.underlying33 rfl (by kernel_rfl)) ?_; with_reducible rfl))); (· simp only [Act.put, List.setIfInBounds_toArray, List.set_cons_zero, List.set_cons_succ, kw64, kw32]; rfl)))
      refine bone (i := 4) (N := (some 22)) #[true, true, true, true, true, false] rfl rfl (by kernel_rfl) HBS (fun w1 hg K hK => ?_)
      rw [if_pos (by rfl)]
      replace HO := HO.up hg
      have HR := Hk.out.2.2.up hg
      refine wp_call Tryd.func87 rfl (by kernel_rfl) rfl (by rfl) ((HM.out _ _ _ _ _ (HK.out.up HO.below) HR Hk.out.2.1 HX.out).mono ?_)
      rintro e w2 ⟨⟨A'', c'', hc'', rfl, hR⟩, hb⟩
      refine ⟨_, rfl, hK _ _ (not_ds (by decide) hb) (fun HBS => ?_)⟩
      replace HO := HO.up hb
      simp only [Act.put, List.setIfInBounds_toArray, List.set_cons_zero, List.set_cons_succ]
      refine bseq (m := 0) (.inl rfl) [(5, true, some 8)] #[true, true, true, true, true, true] HBS (by kernel_rfl) rfl (fun _ _ _ _ _ h => h) ?_
      repeat (first
        | (refine sP (v := ?_) (a' := ?_) rfl rfl (by rfl) ?_ ?_ ?_; rotate_left 2; (· intro w'; go_simp; with_reducible rfl); (· simp only [Act.put, List.setIfInBounds_toArray, List.set_cons_zero, List.set_cons_succ, kw64, kw32]; rfl))
        | (refine sL (v := ?_) (a' := ?_) rfl rfl (by rfl) ?_ ?_ ?_; rotate_left 2; (· intro w1 hg; have c0 := (HO.up hg).cell 2 rfl; have c00 := (HO.up hg).blk 2 rfl; (first | (go_simp; with_reducible rfl) | (refine Eq.trans (run_load_row 33 (.tmp 3) rfl w.heap.size (by rfl) _ #[.slice A1 64 c1, .slice A2 8 c2] _ _ ((HO.up hg).blk 2 rfl) Tryd.underlying33 rfl (by kernel_rfl)) ?_; with_reducible rfl))); (· simp only [Act.put, List.setIfInBounds_toArray, List.set_cons_zero, List.set_cons_succ, kw64, kw32]; rfl)))
      refine bdone (by kernel_rfl) (fun w1 hg => ?_)
      replace HO := HO.up hg
      replace hR := hR.up hg
      clear hg HBS
      go_wp2
      go_roundw
      case rel =>
        rw [hbk.out] at hR
        exact ⟨k + 1, A'', c'', by rw [hdr.out]; rfl, rfl, ⟨by omega, hc'', hR⟩, HO⟩
      case measure => rw [hdr.out]; exact hms
    · have hq : all.size / 64 = k := by have := Hk.out.1; omega
      have HW := Lib.hid (show foldF f all k = wordsF f all by unfold wordsF; rw [hq])
      have HLf := Lib.hid (show all.extract (64 * k) all.size = leftF all by unfold leftF; rw [hq])
      have hxs := ext_size all (64 * k)
      have h64 : ((all.extract (64 * k) all.size).size : Int) < 64 := by omega
      have HC := Lib.hid Hk.out.2.1
      have HRR := Lib.hid Hk.out.2.2
      clear hq hxs
      rw [HW.out] at HRR
      rw [HLf.out] at h64
      rw [HLf.out]
      clear HW HLf hlt Hk
      have hwa := wrap_addM m s.size
      have hws := wrap_u64n s.size (by omega)
      have c0 := HO.cell 1 rfl
      have c1_ := HO.cell 0 rfl
      have f1_ := HO.frozen 0 rfl
      go_wp2
      rw [HA.out]
      have hRR := HRR.out.keep (HO.blk 0 rfl) (by intro n; simp) (w1 := ((wr.setCell ⟨w.heap.size + 2, 0, none⟩ (.slice A' 8 c')).setCell ⟨w.heap.size + 2, 1, none⟩ (.string (leftF all))).setCell ⟨w.heap.size + 2, 2, none⟩ (.int .u64 (addM m s.size : Nat))) (fun i hi => by rw [set_other _ _ _ _ i hi, set_other _ _ _ _ i hi, set_other _ _ _ _ i hi])
      replace HO := ((HO.set 0 rfl 0 (.slice A' 8 c')).set 0 rfl 1 (.string (leftF all))).set 0 rfl 2 (.int .u64 (addM m s.size : Nat))
      exact bodyPost_ret (v := hashV A' 8 c' (leftF all) (addM m s.size)) (results_cell_row Tryd.results63 _ _ (w.heap.size + 2) 98 _ (0, 0) _ (by rfl) (HO.blk 0 rfl) Tryd.underlying98 rfl (by kernel_rfl)) rfl ⟨⟨A', c', HC.out, rfl, hRR⟩, HO.below⟩
end Go.Proofs.YtpbaolijacimjaaDoor

set_option linter.unusedSimpArgs false
/- THE REFERENCE's SUMS, II. -/
namespace Go.Proofs.YtpbaolijacimjaaDoor
open Go.RowKit Go.Proofs.YtpbaolijacimjaaDoorW.PrintWords
/-- a number's lowest bytes, the highest first -/
def hiL (n : Nat) : Nat → List UInt8
  | 0 => []
  | i + 1 => UInt8.ofNat (n / 256 ^ i % 256) :: hiL n i
theorem hiL_len (n i : Nat) : (hiL n i).length = i := by induction i with | zero => rfl | succ i ih => simp [hiL, ih]
theorem hi_tail (m : Nat) : hiL (m * 8 % 18446744073709551616) 8 = lensL m 8 := rfl
theorem hi_word (x : W32) : (hiL x.toNat 4).map (fun b => (b.toNat : Int)) = wordI x := by
  unfold hiL hiL hiL hiL hiL wordI un
  have := x.isLt
  simp only [List.map_cons, List.map_nil, BitVec.toNat_ushiftRight, Nat.shiftRight_eq_div_pow, UInt8.toNat_ofNat']
  congr 1
  · omega
  congr 1
  · omega
  congr 1
  · omega
  congr 1
  omega
theorem conv_lit1' {P : Program} {src dst e : TypeId} (hs : P.underlying src = some (.slice e)) (he : P.underlying e = some (.int .u8)) (hd : P.underlying dst = some .string) (W : World) (x : Int) {g : Nat} (hg : W.heap.size = g) :
    (convert src dst (.slice (some ⟨g, 0, none⟩) 1 1)).run P (W.alloc (.cells #[.int .u8 x] e)) = .ok (.string ⟨[UInt8.ofNat x.toNat].toArray⟩) (W.alloc (.cells #[.int .u8 x] e)) := hg ▸ conv_lit1 hs he hd W x
theorem rep_snoc (j : Nat) : Lib.repeatL ([0] : List UInt8) j ++ [0] = Lib.repeatL [0] (j + 1) := by
  have e : ∀ n, Lib.repeatL ([0] : List UInt8) n = List.replicate n 0 := fun n => by
    induction n with
    | zero => rfl
    | succ n ih => unfold Lib.repeatL; rw [ih]; rfl
  rw [e, e, List.replicate_succ']
def bytL (f : Nat → W32) (k : Nat) : List UInt8 := (List.range k).flatMap (fun i => hiL (f i).toNat 4)
theorem bytL_succ (f : Nat → W32) (k : Nat) : bytL f (k + 1) = bytL f k ++ hiL (f k).toNat 4 := by unfold bytL; rw [List.range_succ, List.flatMap_append]; simp
theorem bytL_len (f : Nat → W32) (k : Nat) : (bytL f k).length = 4 * k := by
  induction k with
  | zero => rfl
  | succ k ih => rw [bytL_succ, List.length_append, ih, hiL_len]; omega
theorem bytL_text (f : Nat → W32) : (⟨(bytL f 8).toArray⟩ : ByteArray) = textF f := by
  unfold textF strOfNums
  congr 2
  have : ∀ k, bytL f k = (outI f k).map fun n => UInt8.ofNat n.toNat := by
    intro k
    induction k with
    | zero => rfl
    | succ k ih =>
      rw [bytL_succ, outI_succ, List.map_append, ih, ← hi_word, List.map_map]
      congr 1
      have h : ∀ l : List UInt8, l = l.map ((fun n : Int => UInt8.ofNat n.toNat) ∘ fun b : UInt8 => (b.toNat : Int)) := fun l => by
        conv => lhs; rw [← List.map_id l]
        refine List.map_congr_left fun b _ => ?_
        simp
      exact h _
  exact this 8
attribute [local irreducible] Calls mixF
set_option maxHeartbeats 1000000 in
theorem high_any (n many : Nat) (hn : n < 18446744073709551616) (hm : many ≤ 8) (w : World) :
    Calls Tryd.prog 86 #[.int .u64 (n : Int), .int .i64 (many : Int)] w fun e w' => e = .returned (.string ⟨(hiL n many).toArray⟩) ∧ Below w.heap.size w w' := by
  go_enter Tryd.func86, Tryd.ntmps86
  go_wp2_with fail
  go_loopw [0, 5, 6] (fun c0 c5 c6 wr => ∃ i : Nat, c6 = .int .i64 (i : Int) ∧ c0 = .int .u64 ((n / 256 ^ i : Nat) : Int) ∧ c5 = .string ⟨(hiL n i).toArray⟩ ∧ Aside0 (i ≤ many) ∧ Aside0 (Below w.heap.size w wr)) (fun _ _ c6 _ => many - (intOf c6).toNat)
  case atStart => exact ⟨0, rfl, by simp, rfl, ⟨by omega⟩, ⟨Below.refl _ _⟩⟩
  case round =>
    obtain ⟨i, rfl, rfl, rfl, Hi, HB⟩ := hrel
    by_cases hlt : i < many
    · have i0 : (0 : Int) ≤ (i : Int) := by omega
      have i1 : (i : Int) < (many : Int) := by omega
      have i2 : (many : Int) ≤ 8 := by omega
      have hd : n / 256 ^ i / 256 = n / 256 ^ (i + 1) := by rw [Nat.div_div_eq_div_mul, Nat.pow_succ]
      have hle : n / 256 ^ i ≤ n := Nat.div_le_self _ _
      have hlen := hiL_len n i
      have hcv := fun x => conv_lit1 Tryd.underlying42 Tryd.underlying5 Tryd.underlying9 wr x
      have HS := Lib.hid (show hiL n (i + 1) = UInt8.ofNat (n / 256 ^ i % 256) :: hiL n i from rfl)
      have HD := Lib.hid hd
      clear hd
      generalize n / 256 ^ i = q at *
      have hq0 : (0 : Int) ≤ (q : Int) := by omega
      go_wp2
      go_roundw
      case rel =>
        refine ⟨i + 1, by go_num, ?_, ?_, ⟨by omega⟩, ⟨below_alloc HB.out _⟩⟩
        · rw [← HD.out]; congr 1
        · rw [HS.out, mk_append]; rfl
      case measure => simp [intOf]; omega
    · have hk : i = many := by have := Hi.out; omega
      subst hk
      have i1 : ¬ ((i : Int) < (i : Int)) := by omega
      go_wp2
      go_ret
      exact ⟨rfl, HB.out⟩
set_option maxHeartbeats 4000000 in
theorem RNew_any (A1 : Option Addr) (c1 : Nat) (A2 : Option Addr) (c2 : Nat) (w : World) :
    Calls Tryd.prog 64 #[kV A1 c1 A2 c2] w fun e w' => e = .returned (hashV A2 8 c2 ⟨#[]⟩ 0) ∧ Below w.heap.size w w' := by
  unfold kV
  go_enter Tryd.func64, Tryd.ntmps64
  have HO := ((Own.start w).alloc' (.cells #[.slice A1 64 c1, .slice A2 8 c2] 33) rfl).alloc' (.cells #[.slice A2 8 c2, .string ⟨#[]⟩, .int .u64 0] 98) (by simp : _ = w.heap.size + 1)
  go_wp2
  exact bodyPost_ret (v := hashV A2 8 c2 ⟨#[]⟩ 0) (results_cell_row Tryd.results64 _ _ (w.heap.size + 1) 98 _ (0, 0) _ (by rfl) (HO.blk 0 rfl) Tryd.underlying98 rfl (by kernel_rfl)) rfl ⟨rfl, HO.below⟩
set_option maxHeartbeats 4000000 in
set_option maxRecDepth 100000 in
theorem RSum_any (A1 : Option Addr) (c1 : Nat) (A2 : Option Addr) (c2 : Nat) (A : Option Addr) (c : Nat) (f : Nat → W32) (rest : ByteArray) (m : Nat) (w : World) (hK : KAt w A1 c1 A2 c2) (hR : Row8 w A f) (hc : 8 ≤ c) (h1 : rest.size < 64) :
    Calls Tryd.prog 62 #[kV A1 c1 A2 c2, hashV A 8 c rest m] w fun e w' => e = .returned (.string (sumF f rest m)) ∧ Below w.heap.size w w' := by
  have HT := Lib.hid (show tailF rest.size m = ⟨(padL rest.size ++ lensL m 8).toArray⟩ from rfl)
  have HS := Lib.hid (show sumF f rest m = textF (wordsF f (rest ++ tailF rest.size m)) from rfl)
  have HK := Lib.hid hK
  have HR := Lib.hid hR
  have HTs := Lib.hid (show (tailF rest.size m).size ≤ 1000 by
    have := padL_len rest.size
    have := lensL_len m 8
    show (padL rest.size ++ lensL m 8).toArray.size ≤ _
    simp; omega)
  clear hR hK
  unfold hashV kV at *
  obtain ⟨z, hz⟩ : ∃ z, z = (119 - rest.size) % 64 := ⟨_, rfl⟩
  have hz3 : z < 64 := by omega
  have HP := Lib.hid (show padL rest.size = 128 :: Lib.repeatL [0] z by unfold padL; rw [hz])
  have HZ := Lib.hid hz
  clear hz
  have HO := ((Own.start w).alloc' (.cells #[.slice A1 64 c1, .slice A2 8 c2] 33) rfl).alloc' (.cells (hashC A 8 c rest m) 98) (by simp : _ = w.heap.size + 1)
  unfold hashC at HO
  go_enter Tryd.func62, Tryd.ntmps62
  have hcv := conv_lit1' Tryd.underlying42 Tryd.underlying5 Tryd.underlying9 ((w.alloc (.cells #[.slice A1 64 c1, .slice A2 8 c2] 33)).alloc (.cells #[.slice A 8 c, .string rest, .int .u64 (m : Int)] 98)) 128 (show _ = w.heap.size + 1 + 1 by simp)
  go_wp2_with fail
  clear hcv
  go_loopw [5] (fun c5 wr => ∃ j : Nat, c5 = .string ⟨(128 :: Lib.repeatL [0] j).toArray⟩ ∧ Aside0 (j ≤ z) ∧ Own w [(w.heap.size + 1, .cells #[.slice A 8 c, .string rest, .int .u64 (m : Int)] 98 (0, 0)), (w.heap.size, .cells #[.slice A1 64 c1, .slice A2 8 c2] 33 (0, 0))] wr) (fun c5 _ => 100 - strLen c5)
  case atStart => exact ⟨0, rfl, ⟨by omega⟩, HO.up (below_alloc (Below.refl _ _) _)⟩
  case round =>
    clear HO
    obtain ⟨j, rfl, Hj, HO⟩ := hrel
    have hl : (⟨(128 :: Lib.repeatL [0] j).toArray⟩ : ByteArray).size = j + 1 := by
      show (128 :: Lib.repeatL [0] j).toArray.size = _
      simp [Lib.repeatL_length]
    by_cases hlt : j < z
    · have hb : ((((rest.size : Int) + ((j + 1 : Nat) : Int)) % 64) == 56) = false := by
        have := HZ.out
        rw [beq_eq_false_iff_ne]; omega
      have c0 := HO.cell 0 rfl
      have hcv := fun x => conv_lit1 Tryd.underlying42 Tryd.underlying5 Tryd.underlying9 wr x
      go_wp2
      go_roundw
      case rel => exact ⟨j + 1, by rw [show (⟨#[0]⟩ : ByteArray) = ⟨([0] : List UInt8).toArray⟩ from rfl, mk_append, List.cons_append, rep_snoc], ⟨by omega⟩, HO.up (below_alloc (Below.refl _ _) _)⟩
      case measure =>
        rw [show (⟨#[0]⟩ : ByteArray) = ⟨([0] : List UInt8).toArray⟩ from rfl, mk_append, List.cons_append, rep_snoc]
        have hl2 : (⟨(128 :: Lib.repeatL [0] (j + 1)).toArray⟩ : ByteArray).size = j + 1 + 1 := by
          show (128 :: Lib.repeatL [0] (j + 1)).toArray.size = _
          simp [Lib.repeatL_length]
        show 100 - (⟨(128 :: Lib.repeatL [0] (j + 1)).toArray⟩ : ByteArray).size < 100 - (⟨(128 :: Lib.repeatL [0] j).toArray⟩ : ByteArray).size
        omega
    · obtain rfl : j = z := by have := Hj.out; omega
      have hb : ((((rest.size : Int) + ((j + 1 : Nat) : Int)) % 64) == 56) = true := by
        have := HZ.out
        rw [beq_iff_eq]; omega
      have c0 := HO.cell 0 rfl
      have hz8 : IntKind.u64.wrap (8 * (m : Int)) = ((m * 8 % 18446744073709551616 : Nat) : Int) := by
        show (8 * (m : Int)) % 18446744073709551616 = _
        omega
      have HH := Lib.hid (fun w1 => high_any (m * 8 % 18446744073709551616) 8 (Nat.mod_lt _ (by decide)) (by decide) w1)
      have ht : (⟨(128 :: Lib.repeatL [0] j).toArray⟩ : ByteArray) ++ ⟨(hiL (m * 8 % 18446744073709551616) 8).toArray⟩ = tailF rest.size m := by
        rw [hi_tail, mk_append, HT.out, HP.out]
      have hls : (⟨(hiL (m * 8 % 18446744073709551616) 8).toArray⟩ : ByteArray).size = 8 := by
        show (hiL (m * 8 % 18446744073709551616) 8).toArray.size = _
        rw [hi_tail]; simp [lensL_len]
      have hl9 : ¬ (j + 1 + 8 > 9223372036854775807) := by omega
      have HW := Lib.hid (fun w1 (hg : Gr w w1) => RWrite_any A1 c1 A2 c2 A c f rest (tailF rest.size m) m w1 (HK.out.up hg) (HR.out.up hg) hc (by omega) (by have := HTs.out; omega))
      unfold hashV kV at HW
      generalize m * 8 % 18446744073709551616 = m8 at *
      generalize Lib.repeatL [0] j = zs at *
      generalize hiL m8 8 = hs at *
      have HLs := Lib.hid (show (⟨(128 :: zs).toArray⟩ : ByteArray).size + (⟨hs.toArray⟩ : ByteArray).size ≤ 1000 by rw [hl, hls]; omega)
      clear HT HP HZ Hj hlt
      go_wp2_with fail
      clear c0
      refine bstart (fun w => w.heap.size) (n := 12) (ds := []) #[false, false, false, false, false, false, false, false, false, false, false, false] (by kernel_rfl) rfl rfl (Nat.le_refl _) (fun HBS => ?_)
      refine bseq (m := 3) (.inl rfl) [(2, true, some 25), (3, true, some 26), (11, true, some 34), (0, true, some 23), (1, true, some 24), (4, true, some 27), (5, true, some 28), (6, true, some 29), (7, true, some 30)] #[true, true, true, true, true, true, true, true, false, false, false, true] HBS (by kernel_rfl) rfl (fun _ _ _ _ _ h => h) ?_
      repeat (first
        | (refine sP (v := ?_) (a' := ?_) rfl rfl (by rfl) ?_ ?_ ?_; rotate_left 2; (· intro w'; go_simp; with_reducible rfl); (· simp only [Act.put, List.setIfInBounds_toArray, List.set_cons_zero, List.set_cons_succ, kw64, kw32]; rfl))
        | (refine sD (v := ?_) (a' := ?_) Tryd.func86 rfl rfl (by rfl) rfl (by kernel_rfl) rfl (by rfl) ?_ ?_ ?_; rotate_left 2; (· intro w1 hg; exact HH.out w1); (· simp only [Act.put, List.setIfInBounds_toArray, List.set_cons_zero, List.set_cons_succ, kw64, kw32]; rfl))
        | (refine sB (v := ?_) (a' := ?_) rfl rfl (by rfl) ?_ ?_ ?_; rotate_left 2; (· intro w1 hg; have c0 := (HO.up hg).cell 0 rfl; (first | (go_simp; with_reducible rfl) | (refine Eq.trans (run_load_row 33 (.tmp 2) rfl w.heap.size (by rfl) _ #[.slice A1 64 c1, .slice A2 8 c2] _ _ ((HO.up hg).blk 1 rfl) Tryd.underlying33 rfl (by kernel_rfl)) ?_; with_reducible rfl) | (refine Eq.trans (run_load_row 98 (.tmp 3) rfl (w.heap.size + 1) (by rfl) _ #[.slice A 8 c, .string rest, .int .u64 (m : Int)] _ _ ((HO.up hg).blk 0 rfl) Tryd.underlying98 rfl (by kernel_rfl)) ?_; with_reducible rfl))); (· simp only [Act.put, List.setIfInBounds_toArray, List.set_cons_zero, List.set_cons_succ, kw64, kw32]; rfl)))
      refine bone (i := 8) (N := (some 31)) #[true, true, true, true, true, true, true, true, true, false, false, true] rfl rfl (by kernel_rfl) HBS (fun w1 hg K hK => ?_)
      rw [if_pos (by rfl)]
      replace HO := HO.up hg
      refine wp_call Tryd.func63 rfl (by kernel_rfl) rfl (by rfl) ((HW.out _ HO.below).mono ?_)
      rintro e w2 ⟨⟨A', c', hc', rfl, hR⟩, hb⟩
      refine ⟨_, rfl, hK _ _ (not_ds (by decide) hb) (fun HBS => ?_)⟩
      replace HO := HO.up hb
      unfold hashV
      generalize wordsF f (rest ++ tailF rest.size m) = F at *
      generalize addM m (tailF rest.size m).size = m2 at *
      generalize leftF (rest ++ tailF rest.size m) = lf at *
      have hu := fieldH0 (.slice A' 8 c') (.string lf) (.int .u64 (m2 : Int))
      simp only [Act.put, List.setIfInBounds_toArray, List.set_cons_zero, List.set_cons_succ]
      refine bseq (m := 0) (.inl rfl) [(9, true, some 32), (10, true, some 33)] #[true, true, true, true, true, true, true, true, true, true, true, true] HBS (by kernel_rfl) rfl (fun _ _ _ _ _ h => h) ?_
      repeat (first
        | (refine sP (v := ?_) (a' := ?_) rfl rfl (by rfl) ?_ ?_ ?_; rotate_left 2; (· intro w'; go_simp; with_reducible rfl); (· simp only [Act.put, List.setIfInBounds_toArray, List.set_cons_zero, List.set_cons_succ, kw64, kw32]; rfl))
        | (refine sC (v := ?_) (a' := ?_) Tryd.func86 rfl rfl (by rfl) rfl (by kernel_rfl) rfl (by rfl) ?_ ?_ ?_; rotate_left 2; (· intro w1 hg; exact HH.out w1); (· simp only [Act.put, List.setIfInBounds_toArray, List.set_cons_zero, List.set_cons_succ, kw64, kw32]; rfl))
        | (refine sL (v := ?_) (a' := ?_) rfl rfl (by rfl) ?_ ?_ ?_; rotate_left 2; (· intro w1 hg; have c0 := (HO.up hg).cell 0 rfl; (first | (go_simp; with_reducible rfl) | (refine Eq.trans (run_load_row 33 (.tmp 2) rfl w.heap.size (by rfl) _ #[.slice A1 64 c1, .slice A2 8 c2] _ _ ((HO.up hg).blk 1 rfl) Tryd.underlying33 rfl (by kernel_rfl)) ?_; with_reducible rfl) | (refine Eq.trans (run_load_row 98 (.tmp 3) rfl (w.heap.size + 1) (by rfl) _ #[.slice A 8 c, .string rest, .int .u64 (m : Int)] _ _ ((HO.up hg).blk 0 rfl) Tryd.underlying98 rfl (by kernel_rfl)) ?_; with_reducible rfl))); (· simp only [Act.put, List.setIfInBounds_toArray, List.set_cons_zero, List.set_cons_succ, kw64, kw32]; rfl)))
      refine bdone (by kernel_rfl) (fun w1 hg => ?_)
      replace HO := HO.up hg
      replace hR := hR.up hg
      clear hg hu HBS hl9 hls hl HLs ht hz8 HTs HW HK
      obtain ⟨ad, rfl, hr⟩ := hR
      have HF := Lib.hid hr
      clear hr
      go_wp2_with fail
      go_loopw [6, 34] (fun c6 c1 wq => ∃ k : Nat, c1 = .int .i64 (k : Int) ∧ c6 = .string ⟨(bytL F k).toArray⟩ ∧ Aside0 (k ≤ 8) ∧ Aside0 (Below w1.heap.size w1 wq)) (fun _ c1 _ => 8 - (intOf c1).toNat)
      case atStart => exact ⟨0, rfl, rfl, ⟨by omega⟩, ⟨Below.refl _ _⟩⟩
      case round =>
        obtain ⟨k, rfl, rfl, Hk, HB⟩ := hrel
        by_cases hlt : k < 8
        · have i0 : (0 : Int) ≤ (k : Int) := by omega
          have i1 : (k : Int) < 8 := by omega
          have c0 := pw_cell_below HB.out (HF.out k hlt)
          have hlen := bytL_len F k
          have HSu := Lib.hid (bytL_succ F k)
          obtain ⟨q, hq⟩ : ∃ q : Nat, un (F k) = (q : Int) := ⟨(F k).toNat, rfl⟩
          have hq2 : (F k).toNat = q := by unfold un at hq; omega
          have hq3 : q < 4294967296 := by rw [← hq2]; exact (F k).isLt
          rw [hq2] at HSu
          unfold u32 at c0
          rw [hq] at c0
          have hH := fun w1 => high_any q 4 (by omega) (by decide) w1
          have hl4 : (⟨(hiL q 4).toArray⟩ : ByteArray).size = 4 := by
            show (hiL q 4).toArray.size = _
            simp [hiL_len]
          have HH := Lib.hid hH
          have hbs : (⟨(bytL F k).toArray⟩ : ByteArray).size = 4 * k := by
            show (bytL F k).toArray.size = _
            simp [hlen]
          clear hH hq hq2 hlen
          generalize hiL q 4 = hs4 at *
          generalize bytL F k = bs at *
          go_wp2_with fail
          refine (HH.out _).mono ?_
          rintro e w2 ⟨rfl, hb⟩
          replace HB := Aside0.mk (HB.out.trans (Below.mono hb HB.out.size))
          clear hb c0
          go_wp2
          go_roundw
          case rel => exact ⟨k + 1, by go_num, by rw [HSu.out, mk_append], ⟨by omega⟩, HB⟩
          case measure => simp [intOf]; omega
        · obtain rfl : k = 8 := by have := Hk.out; omega
          have i1 : ¬ ((8 : Int) < 8) := by omega
          go_wp2
          go_ret
          exact ⟨by rw [HS.out, ← bytL_text]; rfl, HO.below.trans (Below.mono HB.out HO.below.size)⟩
end Go.Proofs.YtpbaolijacimjaaDoor

set_option linter.unusedSimpArgs false
/- THE REFERENCE's SUMS, III. -/
namespace Go.Proofs.YtpbaolijacimjaaDoor
open Go.RowKit Go.Proofs.YtpbaolijacimjaaDoorW.PrintWords
attribute [local irreducible] Calls mixF
set_option maxHeartbeats 4000000 in
set_option maxRecDepth 100000 in
theorem ROf_any (A1 : Option Addr) (c1 : Nat) (A2 : Option Addr) (c2 : Nat) (s : ByteArray) (w : World) (hK : KAt w A1 c1 A2 c2) (h2 : s.size ≤ 100000) :
    Calls Tryd.prog 48 #[kV A1 c1 A2 c2, .string s] w fun e w' => e = .returned (.string (shaF s)) ∧ Below w.heap.size w w' := by
  have HK := Lib.hid hK
  have HN := Lib.hid (fun w1 => RNew_any A1 c1 A2 c2 w1)
  have HW := Lib.hid (fun w1 (hg : Gr w w1) => RWrite_any A1 c1 A2 c2 A2 c2 ivF ⟨#[]⟩ s 0 w1 (hK.up hg) (hK.iv.up hg) hK.h2 (by decide) h2)
  have hs := leftF_size (⟨#[]⟩ ++ s)
  have HL := Lib.hid (show (leftF (⟨#[]⟩ ++ s)).size < 64 by omega)
  have HE := Lib.hid (show sumF (wordsF ivF (⟨#[]⟩ ++ s)) (leftF (⟨#[]⟩ ++ s)) (addM 0 s.size) = shaF s by rw [nil_app]; rfl)
  clear hs
  generalize shaF s = sh at *
  generalize wordsF ivF (⟨#[]⟩ ++ s) = F at *
  generalize leftF (⟨#[]⟩ ++ s) = lf at *
  generalize addM 0 s.size = m2 at *
  have HS := fun (A : Option Addr) (c : Nat) (w1 : World) (hg : Gr w w1) (hR : Row8 w1 A F) (hc : 8 ≤ c) => RSum_any A1 c1 A2 c2 A c F lf m2 w1 (hK.up hg) hR hc HL.out
  rw [HE.out] at HS
  replace HS := Lib.hid HS
  clear hK
  unfold hashV kV at *
  have HO := (Own.start w).alloc' (.cells #[.slice A1 64 c1, .slice A2 8 c2] 33) rfl
  go_enter Tryd.func48, Tryd.ntmps48
  go_wp2_with fail
  refine bstart (fun w => w.heap.size) (n := 8) (ds := []) #[false, false, false, false, false, false, false, false] (by kernel_rfl) rfl rfl (Nat.le_refl _) (fun HBS => ?_)
  refine bseq (m := 3) (.inl rfl) [(4, true, some 9), (0, true, some 5), (1, true, some 6), (2, true, some 7), (3, true, some 8)] #[true, true, true, true, true, false, false, false] HBS (by kernel_rfl) rfl (fun _ _ _ _ _ h => h) ?_
  repeat (first
    | (refine sP (v := ?_) (a' := ?_) rfl rfl (by rfl) ?_ ?_ ?_; rotate_left 2; (· intro w'; go_simp; with_reducible rfl); (· simp only [Act.put, List.setIfInBounds_toArray, List.set_cons_zero, List.set_cons_succ, kw64, kw32]; rfl))
    | (refine sD (v := ?_) (a' := ?_) Tryd.func64 rfl rfl (by rfl) rfl (by kernel_rfl) rfl (by rfl) ?_ ?_ ?_; rotate_left 2; (· intro w1 hg; exact HN.out w1); (· simp only [Act.put, List.setIfInBounds_toArray, List.set_cons_zero, List.set_cons_succ, kw64, kw32]; rfl))
    | (refine sB (v := ?_) (a' := ?_) rfl rfl (by rfl) ?_ ?_ ?_; rotate_left 2; (· intro w1 hg; skip; (refine Eq.trans (run_load_row 33 (.tmp 2) rfl w.heap.size (by rfl) _ #[.slice A1 64 c1, .slice A2 8 c2] _ _ ((HO.up hg).blk 0 rfl) Tryd.underlying33 rfl (by kernel_rfl)) ?_; with_reducible rfl)); (· simp only [Act.put, List.setIfInBounds_toArray, List.set_cons_zero, List.set_cons_succ, kw64, kw32]; rfl)))
  refine bone (i := 5) (N := (some 10)) #[true, true, true, true, true, true, false, false] rfl rfl (by kernel_rfl) HBS (fun w1 hg K hK => ?_)
  rw [if_pos (by rfl)]
  replace HO := HO.up hg
  refine wp_call Tryd.func63 rfl (by kernel_rfl) rfl (by rfl) ((HW.out _ HO.below).mono ?_)
  rintro e w2 ⟨⟨A', c', hc', rfl, hR⟩, hb⟩
  refine ⟨_, rfl, hK _ _ (not_ds (by decide) hb) (fun HBS => ?_)⟩
  replace HO := HO.up hb
  simp only [Act.put, List.setIfInBounds_toArray, List.set_cons_zero, List.set_cons_succ]
  refine bseq (m := 0) (.inl rfl) [(6, false, some 11), (7, true, some 4)] #[true, true, true, true, true, true, true, true] HBS (by kernel_rfl) rfl (fun _ _ _ _ _ h => h) ?_
  repeat (first
    | (refine sP (v := ?_) (a' := ?_) rfl rfl (by rfl) ?_ ?_ ?_; rotate_left 2; (· intro w'; go_simp; with_reducible rfl); (· simp only [Act.put, List.setIfInBounds_toArray, List.set_cons_zero, List.set_cons_succ, kw64, kw32]; rfl))
    | (refine sC (v := ?_) (a' := ?_) Tryd.func62 rfl rfl (by rfl) rfl (by kernel_rfl) rfl (by rfl) ?_ ?_ ?_; rotate_left 2; (· intro w1 hg; exact HS.out _ _ w1 (HO.up hg).below (hR.up hg) hc'); (· simp only [Act.put, List.setIfInBounds_toArray, List.set_cons_zero, List.set_cons_succ, kw64, kw32]; rfl))
    | (refine sL (v := ?_) (a' := ?_) rfl rfl (by rfl) ?_ ?_ ?_; rotate_left 2; (· intro w1 hg; skip; (refine Eq.trans (run_load_row 33 (.tmp 2) rfl w.heap.size (by rfl) _ #[.slice A1 64 c1, .slice A2 8 c2] _ _ ((HO.up hg).blk 0 rfl) Tryd.underlying33 rfl (by kernel_rfl)) ?_; with_reducible rfl)); (· simp only [Act.put, List.setIfInBounds_toArray, List.set_cons_zero, List.set_cons_succ, kw64, kw32]; rfl)))
  refine bdone (by kernel_rfl) (fun w1 hg => ?_)
  replace HO := HO.up hg
  clear hg
  go_wp2
  go_ret
  exact ⟨rfl, HO.below⟩
end Go.Proofs.YtpbaolijacimjaaDoor

set_option linter.unusedSimpArgs false
/- THE REFERENCE's SUMS, III. -/
namespace Go.Proofs.YtpbaolijacimjaaDoor
open Go.RowKit Go.Proofs.YtpbaolijacimjaaDoorW.PrintWords
attribute [local irreducible] Calls mixF
set_option maxHeartbeats 4000000 in
set_option maxRecDepth 100000 in
theorem Numbers_any (w : World) :
    Calls Tryd.prog 12 #[] w fun e w' => (∃ A1 c1 A2 c2, e = .returned (kV A1 c1 A2 c2) ∧ KAt w' A1 c1 A2 c2) ∧ Below w.heap.size w w' := by
  have HR1 := Lib.hid (fun w1 => Roots_any 64 true ps64 ks64 rfl (by decide) (fun w2 => by have := primes_any 64 310 ps64_go (by rw [ps64_is]; rfl) (by decide) (by decide) w2; rw [ps64_is] at this; exact this) (fun i hi => roots64 i hi) w1)
  have HR2 := Lib.hid (fun w1 => Roots_any 8 false ps8 (ls8 ivF) rfl (by decide) (fun w2 => by have := primes_any 8 18 ps8_go (by rw [ps8_is]; rfl) (by decide) (by decide) w2; rw [ps8_is] at this; exact this) (fun i hi => roots8 i hi) w1)
  have HO := (Own.start w).alloc' (.cells #[.slice none 0 0, .slice none 0 0] 33) rfl
  go_enter Tryd.func12, Tryd.ntmps12
  go_wp2_with fail
  refine (HR1.out _).mono ?_
  rintro e w1 ⟨v1, rfl, h1, hb⟩
  obtain ⟨A1, c1, rfl⟩ := Kd.R_slice h1
  have H1 := (Kd.R_reads' h1).2
  replace HO := HO.up hb
  clear hb h1
  go_wp2_with fail
  refine (HR2.out _).mono ?_
  rintro e w2 ⟨v2, rfl, h2, hb⟩
  obtain ⟨A2, c2, rfl⟩ := Kd.R_slice h2
  have H2 := (Kd.R_reads' h2).2
  replace HO := HO.up hb
  replace H1 := And.intro H1.1 (Kd.C_below H1.2 hb)
  have HK : KAt w2 A1 c1 A2 c2 := ⟨H1.2, H1.1, Row8.of H2.2, H2.1⟩
  have HKK := Lib.hid HK
  clear hb h2 H1 H2 HK HR1 HR2
  have c0 := HO.cell 0 rfl
  have f0 := HO.frozen 0 rfl
  go_wp2
  have hK := HKK.out.keep (HO.blk 0 rfl) (by intro n; simp) (w1 := (w2.setCell ⟨w.heap.size, 0, none⟩ (.slice A1 64 c1)).setCell ⟨w.heap.size, 1, none⟩ (.slice A2 8 c2)) (fun i hi => by rw [set_other _ _ _ _ i hi, set_other _ _ _ _ i hi])
  replace HO := (HO.set 0 rfl 0 (.slice A1 64 c1)).set 0 rfl 1 (.slice A2 8 c2)
  exact bodyPost_ret (v := kV A1 c1 A2 c2) (results_cell_row Tryd.results12 _ _ w.heap.size 33 _ (0, 0) _ (by rfl) (HO.blk 0 rfl) Tryd.underlying33 rfl (by kernel_rfl)) rfl ⟨⟨A1, c1, A2, c2, rfl, hK⟩, HO.below⟩
end Go.Proofs.YtpbaolijacimjaaDoor

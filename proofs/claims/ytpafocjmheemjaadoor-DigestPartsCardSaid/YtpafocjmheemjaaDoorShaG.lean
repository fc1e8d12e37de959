import Derived.Test.YtpafocjmheemjaaDoorShaF
import Derived.Test.YtpafocjmheemjaaDoorShelf
set_option linter.unusedSimpArgs false
namespace Go.Proofs.YtpafocjmheemjaaDoor
open Go.RowKit Go.Proofs.YtpafocjmheemjaaDoorW.PrintWords
/-- the length's bytes -/
def lenN (m i : Nat) : Nat := (m * 8 % 18446744073709551616) / 2 ^ (56 - 8 * i) % 256
def padL (r : Nat) : List UInt8 := 128 :: Lib.repeatL [0] ((119 - r) % 64)
def lensL (m k : Nat) : List UInt8 := (List.range k).map (fun i => UInt8.ofNat (lenN m i))
/-- what stands behind the last bytes -/
def tailF (r m : Nat) : ByteArray := ⟨(padL r ++ lensL m 8).toArray⟩
def wordI (x : W32) : List Int := [un (x >>> 24) % 256, un (x >>> 16) % 256, un (x >>> 8) % 256, un x % 256]
def outI (f : Nat → W32) (k : Nat) : List Int := (List.range k).flatMap (fun i => wordI (f i))
theorem outI_succ (f : Nat → W32) (k : Nat) : outI f (k + 1) = outI f k ++ wordI (f k) := by unfold outI; rw [List.range_succ, List.flatMap_append]; simp
theorem outI_len (f : Nat → W32) (k : Nat) : (outI f k).length = 4 * k := by
  induction k with
  | zero => rfl
  | succ k ih => rw [outI_succ, List.length_append, ih]; simp [wordI]; omega
/-- what words come to -/
def textF (f : Nat → W32) : ByteArray := strOfNums (outI f 8)
/-- what a sum comes to -/
def sumF (f : Nat → W32) (rest : ByteArray) (m : Nat) : ByteArray := textF (wordsF f (rest ++ tailF rest.size m))
def SumR (f : Nat → W32) (rest : ByteArray) (m : Nat) (e : Ending) : Prop := e = .returned (.tuple #[.string (sumF f rest m), .int .i64 0])
theorem lensL_succ (m k : Nat) : lensL m (k + 1) = lensL m k ++ [UInt8.ofNat (lenN m k)] := by unfold lensL; rw [List.range_succ, List.map_append]; rfl
theorem padL_len (r : Nat) : (padL r).length ≤ 64 := by
  unfold padL
  rw [List.length_cons, Lib.repeatL_length]
  have := Nat.mod_lt (119 - r) (show 64 > 0 by decide)
  simp; omega
theorem lensL_len (m k : Nat) : (lensL m k).length = k := by unfold lensL; simp
theorem un_shr24 (x : W32) : un x / (16777216 : Int) = un (x >>> 24) := un_shr x 24
theorem un_shr16 (x : W32) : un x / (65536 : Int) = un (x >>> 16) := un_shr x 16
theorem un_shr8 (x : W32) : un x / (256 : Int) = un (x >>> 8) := un_shr x 8
theorem lenN_eq (m k : Nat) : (IntKind.u64.wrap ((m : Int) * 8) / 2 ^ (56 - 8 * k) % 256).toNat = lenN m k := by
  show ((m : Int) * 8 % 18446744073709551616 / 2 ^ (56 - 8 * k) % 256).toNat = _
  unfold lenN
  have : (m : Int) * 8 % 18446744073709551616 / 2 ^ (56 - 8 * k) % 256 = ((m * 8 % 18446744073709551616 / 2 ^ (56 - 8 * k) % 256 : Nat) : Int) := by
    simp only [Int.natCast_emod, Int.natCast_ediv, Int.natCast_mul, Int.natCast_pow]; rfl
  rw [this, Int.toNat_natCast]
theorem fieldH0 (a b c : Value) (W : World) : (Instr.field 25 (.agg #[a, b, c]) 0).run Tryd.prog W = .ok a W := by
  unfold Instr.field
  simp [run_underlying Tryd.underlying25, run_underlying Tryd.underlying22, asAgg, part, isAgg]
theorem row8_at {w : World} {g : Nat} {f : Nat → W32} (h : Row8 w (some ⟨g, 0, none⟩) f) (k : Nat) (hk : k < 8) : w.cell? ⟨g, k, none⟩ = some (.int .u32 (un (f k))) := by
  obtain ⟨ad, he, h⟩ := h
  injection he with he
  subst he
  have := h k hk
  rw [Addr.add_mid, Nat.zero_add] at this
  exact this
theorem infoU8 : (Tryd.prog.info? 5).map (fun i => (i.zero, i.size, i.bytes)) = some (some (.int .u8 0), 1, 1) := by kernel_rfl
theorem mod_u8 (n : Int) : IntKind.u8.wrap n = n % 256 := rfl
attribute [local irreducible] Calls mixF
set_option maxHeartbeats 1000000 in
theorem Sum_no (A : Option Addr) (n c : Nat) (rest : ByteArray) (m : Nat) (w : World) (hr : rightB n rest m = false) :
    Calls Tryd.prog 18 #[hashV A n c rest m] w fun e w' => e = .returned (.tuple #[.string ⟨#[]⟩, .int .i64 1]) ∧ Below w.heap.size w w' := by
  have HR := Right_any A n c rest m
  rw [hr] at HR
  clear hr
  replace HR := Lib.hid HR
  unfold hashV at *
  go_enter Tryd.func18, Tryd.ntmps18
  go_wp2_with fail
  refine (HR.out _).mono ?_
  rintro e w1 ⟨rfl, hb⟩
  go_wp2
  go_ret2
  exact ⟨rfl, below_step (below_alloc (Below.refl _ _) _) hb⟩
set_option maxHeartbeats 4000000 in
set_option maxRecDepth 100000 in
theorem Sum_yes (A : Option Addr) (c : Nat) (f : Nat → W32) (rest : ByteArray) (m : Nat) (w : World) (hR : Row8 w A f) (hK : KeysAt w) (hr : rightB 8 rest m = true) :
    Calls Tryd.prog 18 #[hashV A 8 c rest m] w fun e w' => SumR f rest m e ∧ Below w.heap.size w w' := by
  have h1 : rest.size < 64 := by unfold rightB at hr; simp at hr; exact hr.1
  have HR := Right_any A 8 c rest m
  rw [hr] at HR
  clear hr
  replace HR := Lib.hid HR
  have HB := Lib.hid (fun (w1 : World) (hg : Gr w w1) => behind_any A c f rest (tailF rest.size m) m w1 (hR.up hg) (hK.up hg) (by omega) (by
    have := padL_len rest.size
    have := lensL_len m 8
    show (padL rest.size ++ lensL m 8).toArray.size ≤ _
    simp; omega))
  have HT := Lib.hid (show tailF rest.size m = ⟨(padL rest.size ++ lensL m 8).toArray⟩ from rfl)
  have HS := Lib.hid (show sumF f rest m = textF (wordsF f (rest ++ tailF rest.size m)) from rfl)
  clear hR hK
  unfold hashV at *
  obtain ⟨z, hz⟩ : ∃ z, z = (119 - rest.size) % 64 := ⟨_, rfl⟩
  have hz1 : (119 - (rest.size : Int)) % 64 = (z : Int) := by omega
  have hz2 : Int.tmod (119 - (rest.size : Int)) 64 = (z : Int) := by rw [Int.tmod_eq_emod_of_nonneg (by omega)]; exact hz1
  have hz3 : z < 64 := by omega
  have HP := Lib.hid (show padL rest.size = 128 :: Lib.repeatL [0] z by unfold padL; rw [hz])
  have HPL := Lib.hid (padL_len rest.size)
  clear hz
  have HO := (Own.start w).alloc' (.cells (hashC A 8 c rest m) 25) rfl
  unfold hashC at HO
  go_enter Tryd.func18, Tryd.ntmps18
  go_wp2_with fail
  refine (HR.out _).mono ?_
  rintro e w1 ⟨rfl, hb⟩
  replace HO := HO.up hb
  clear hb
  have c0 := HO.cell 0 rfl
  go_wp2_with fail
  clear c0
  refine (Tryd.strings_Repeat ⟨#[0]⟩ z _ (by omega) (by simp [ByteArray.size]; omega)).mono ?_
  rintro e w2 ⟨rfl, hb⟩
  replace HO := HO.up hb
  clear hb
  have hz4 : (Lib.repeatL [0] z).length ≤ 64 := by rw [Lib.repeatL_length]; simp; omega
  have hcat : (⟨#[128]⟩ : ByteArray) ++ ⟨(Lib.repeatL [0] z).toArray⟩ = ⟨(padL rest.size ++ lensL m 0).toArray⟩ := by
    rw [show (⟨#[128]⟩ : ByteArray) = ⟨([128] : List UInt8).toArray⟩ from rfl, mk_append, HP.out]; simp [lensL]
  go_wp2_with fail
  clear hcat hz1 hz2 hz4 HP
  generalize padL rest.size = pd at *
  go_loopw [4, 19] (fun t4 c1 wr => ∃ k : Nat, c1 = .int .i64 (k : Int) ∧ Aside0 (k ≤ 8) ∧ t4 = .string ⟨(pd ++ lensL m k).toArray⟩ ∧ Own w [(w.heap.size, .cells #[.slice A 8 c, .string rest, .int .u64 (m : Int)] 25 (0, 0))] wr) (fun _ c1 _ => 8 - (intOf c1).toNat)
  case atStart => exact ⟨0, rfl, ⟨by omega⟩, rfl, HO⟩
  case round =>
    clear HO
    obtain ⟨k, rfl, Hk, rfl, HO⟩ := hrel
    by_cases hlt : k < 8
    · have i0 : (0 : Int) ≤ (k : Int) := by omega
      have i1 : (k : Int) < 8 := by omega
      have c0 := HO.cell 0 rfl
      have hl2 := Lib.hid (lensL_succ m k)
      have hl3 := lensL_len m k
      have HPL' := HPL.out
      have hcv := fun x => conv_lit1 Tryd.underlying90 Tryd.underlying5 Tryd.underlying9 wr x
      go_wp2
      go_roundw
      case rel =>
        refine ⟨k + 1, by go_num, ⟨by omega⟩, ?_, HO.up (below_alloc (Below.refl _ _) _)⟩
        rw [lenN_eq, hl2.out, ← List.append_assoc, ← mk_append (pd ++ lensL m k) [UInt8.ofNat (lenN m k)]]
      case measure => simp [intOf]; omega
    · have hk : k = 8 := by have := Hk.out; omega
      have i1 : (8 : Int) ≤ (k : Int) := by omega
      have ht : (⟨(pd ++ lensL m k).toArray⟩ : ByteArray) = tailF rest.size m := by rw [HT.out, hk]
      rw [ht]
      clear ht hlt Hk hk HT HPL
      generalize tailF rest.size m = tl at *
      have c0 := HO.cell 0 rfl
      go_wp2_with fail
      clear c0
      refine (HB.out _ HO.below).mono ?_
      rintro e w2 ⟨⟨g, hg, rfl, hR⟩, hb⟩
      replace HO := HO.up hb
      clear hb hg i1 HB
      unfold hashV
      generalize wordsF f (rest ++ tl) = F at *
      generalize addM m tl.size = m2 at *
      generalize leftF (rest ++ tl) = lf at *
      have hu := fieldH0 (.slice (some ⟨g, 0, none⟩) 8 8) (.string lf) (.int .u64 (m2 : Int))
      go_wp2_with fail
      clear hu
      go_loopw [6, 40] (fun v c1 wq => ∃ k : Nat, c1 = .int .i64 (k : Int) ∧ Aside0 (k ≤ 8) ∧ Aside0 (Kd.R (Kd.int .u8) 5 wq w2.heap.size (fun _ => True) v (outI F k)) ∧ Aside0 (Below w2.heap.size w2 wq)) (fun _ c1 _ => 8 - (intOf c1).toNat)
      case atStart => exact ⟨0, rfl, ⟨by omega⟩, ⟨Kd.R_nil _ _ _ _ _⟩, ⟨Below.refl _ _⟩⟩
      case round =>
        obtain ⟨k, rfl, Hk, HR, HB⟩ := hrel
        by_cases hlt : k < 8
        · have i0 : (0 : Int) ≤ (k : Int) := by omega
          have i1 : (k : Int) < 8 := by omega
          have c0 := row8_at (hR.up HB.out) k hlt
          have Hol := Lib.hid (outI_len F k)
          have Hos := Lib.hid (outI_succ F k)
          have HL := Lib.hid (Kd.R_reads' (show (Kd.int .u8).R 5 (wr.alloc (.cells #[.int .u8 (un (F k) / 16777216 % 256), .int .u8 (un (F k) / 65536 % 256), .int .u8 (un (F k) / 256 % 256), .int .u8 (un (F k) % 256)] 5)) wr.heap.size (fun _ => True) (.slice (some ⟨wr.heap.size, 0, none⟩) 4 4) [un (F k) / 16777216 % 256, un (F k) / 65536 % 256, un (F k) / 256 % 256, un (F k) % 256] from R_new_lit wr wr.heap.size 5 [un (F k) / 16777216 % 256, un (F k) / 65536 % 256, un (F k) / 256 % 256, un (F k) % 256] (Nat.le_refl _) (by simp))).2.2
          go_wp2_with (first | ((with_reducible refine gate_builtin (b := .append) rfl ?_); at_builtin; refine app_rows (Kd.int .u8) (w0 := w2) (.tmp 44) (.tmp 56) 90 5 (.int .u8 0) 1 rfl rfl Tryd.underlying90 infoU8 rfl (by decide) (by decide) (fun _ _ h => h) _ _ [un (F k) / 16777216 % 256, un (F k) / 65536 % 256, un (F k) / 256 % 256, un (F k) % 256] _ 4 4 rfl rfl ⟨Kd.R_alloc HR.out _⟩ HL.out ⟨below_alloc HB.out _⟩ (by rw [Hol.out]; omega) ?_; intro v1 w3 HR1 HB1 _))
          go_roundw
          case rel =>
            refine ⟨k + 1, by go_num, ⟨by omega⟩, ⟨?_⟩, HB1⟩
            rw [Hos.out, wordI, ← un_shr24, ← un_shr16, ← un_shr8]
            exact HR1.out
          case measure => simp [intOf]; omega
        · obtain rfl : k = 8 := by have := Hk.out; omega
          have hs := own_string (P := Tryd.prog) Tryd.underlying90 Tryd.underlying5 Tryd.underlying9 (Kd.own_of_R HR.out)
          clear hlt Hk HR
          go_wp2
          go_ret2
          refine ⟨?_, HO.below.trans (Below.mono HB.out HO.below.size)⟩
          unfold SumR
          rw [HS.out]
          rfl
end Go.Proofs.YtpafocjmheemjaaDoor

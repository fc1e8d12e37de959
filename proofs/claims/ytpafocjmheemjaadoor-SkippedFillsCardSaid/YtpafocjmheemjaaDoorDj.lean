import Derived.Test.YtpafocjmheemjaaDoorDg
set_option linter.unusedSimpArgs false
/- LAYER 12: the reference's Fill. -/
namespace Go.Proofs.YtpafocjmheemjaaDoor.Sk
open Go.RowKit Go.Proofs.YtpafocjmheemjaaDoorW.PrintWords Go.Proofs.YtpafocjmheemjaaDoorW.PrintLast
theorem C_setFar {W : World} {A : Option Addr} {n g j : Nat} {u : Value} {xs : List KeptD} (hC : Kd.C kK W A n xs) (hne : ∀ ad : Addr, A = some ad → 0 < n → ad.block ≠ g) : Kd.C kK (W.setCell ⟨g, j, none⟩ u) A n xs := by
  refine ⟨hC.1, hC.2.1, fun hp => ?_⟩
  obtain ⟨ad, e, hc⟩ := hC.2.2 hp
  refine ⟨ad, e, fun i p hi => ?_⟩
  obtain ⟨c, hl, hK, hcell⟩ := hc i p hi
  refine ⟨c, hl, hK, fun k v hk => ?_⟩
  refine (World.cell?_of_block ?_).trans (hcell k v hk)
  exact Below.heap_setCell W _ _ _ (by have := hne ad e hp; unfold Addr.add; split <;> exact this)
theorem keptNe {W : World} {A : Option Addr} {n g : Nat} {T : TypeId} {v0 v1 v2 : Value} {xs : List KeptD} (hC : Kd.C kK W A n xs) (hb : W.heap[g]? = some (.cells #[v0, v1, v2] T (0, 0))) (h0 : ∀ s, v0 ≠ .string s) (ad : Addr) (hA : A = some ad) (hn : 0 < n) : ad.block ≠ g := by
  rintro rfl
  obtain ⟨ad', x, e, hx, k0, _, k2⟩ := kK_at hC 0 hn
  obtain rfl : ad = ad' := Option.some.inj (hA.symm.trans e)
  rw [Nat.zero_mul] at k0 k2
  have ha : ad.add 0 = ad := by unfold Addr.add; rw [if_pos rfl]
  rw [ha] at k0 k2
  have k2' : #[v0, v1, v2][ad.off + 2]? = some (.string x.k) := by
    have := k2
    simp only [World.cell?, hb] at this
    simpa using this
  have hlt := (Array.getElem?_eq_some_iff.1 k2').1
  have e0 : ad.off = 0 := by simp at hlt; omega
  simp only [World.cell?, hb, e0] at k0
  by_cases hs : ad.spot.isSome = true
  · rw [if_pos hs] at k0; cases k0
  · rw [if_neg hs] at k0
    exact h0 _ (by simpa using k0)
theorem putK_len20 (xs : List KeptD) (x : KeptD) (h : xs.length ≤ 20) : (putK xs x).length ≤ 20 := by
  unfold putK
  rw [List.length_append]
  split
  · rw [List.length_drop]; show _ + 1 ≤ _; omega
  · show _ + 1 ≤ _; omega
theorem flF_len20 (xs : List KeptD) (r c : ByteArray) (f k : Nat) (h : xs.length ≤ 20) : (flF xs r c f k).1.length ≤ 20 := by
  cases k with
  | zero => exact h
  | succ k =>
    refine putK_len20 _ _ ?_
    induction k with
    | zero => exact h
    | succ k ih => exact putK_len20 _ _ ih
theorem putK_ref (xs : List KeptD) (x : KeptD) (h : xs.length ≤ 20) : (if xs.length < 20 then xs else xs.drop 1) ++ [x] = putK xs x := by
  unfold putK
  by_cases h1 : xs.length = 20
  · rw [if_neg (by omega), if_pos h1]
  · rw [if_pos (by omega), if_neg h1]
/-- what the reference's Fill answers where the arguments may be -/
def RFillRes (xs : List KeptD) (r b : ByteArray) (f t : Nat) (e : Ending) (w : World) : Prop :=
  ((∃ m, f ≤ m ∧ m < t ∧ 0 ≤ atI xs r m) ∧ e = .returned (.agg #[.slice none 0 0, .string ⟨#[]⟩, .int .i64 7])) ∨
  ((∀ m, f ≤ m → m < t → atI xs r m < 0) ∧ ∃ v, e = .returned (.agg #[v, .string (flF xs r b f (t - f)).2, .int .i64 0]) ∧ Out kK w v (flF xs r b f (t - f)).1)
attribute [local irreducible] Calls mixF
set_option maxHeartbeats 8000000 in
set_option maxRecDepth 100000 in
theorem RFill_size (A1 : Option Addr) (c1 : Nat) (A2 : Option Addr) (c2 : Nat) (A : Option Addr) (n c : Nat) (r b : ByteArray) (f t : Nat) (w : World) (hs : ¬ (r.size = 32 ∧ b.size = 32)) :
    Calls Tryd.prog 56 #[kV A1 c1 A2 c2, .slice A n c, .string r, .string b, .int .u64 (f : Int), .int .u64 (t : Int)] w fun e w' => e = .returned (.agg #[.slice none 0 0, .string ⟨#[]⟩, .int .i64 2]) ∧ Below w.heap.size w w' := by
  unfold kV
  have HO := ((Own.start w).alloc' (.cells #[.slice A1 64 c1, .slice A2 8 c2] 37) rfl).alloc' (.cells #[.slice none 0 0, .string ⟨#[]⟩, .int .i64 0] 82) (by simp : _ = w.heap.size + 1)
  have c0 := HO.cell 0 rfl
  have f0 := HO.frozen 0 rfl
  by_cases h1 : r.size = 32
  · have e1 : ((r.size : Int) != 32) = false := by rw [h1]; rfl
    have e2 : ((b.size : Int) != 32) = true := by rw [bne_iff_ne]; intro hh; exact hs ⟨h1, by omega⟩
    clear hs h1
    go_enter Tryd.func56, Tryd.ntmps56
    go_wp2
    have HO2 := ((Own.start w).alloc' (.cells #[.slice A1 64 c1, .slice A2 8 c2] 37) rfl).alloc' (.cells #[.slice none 0 0, .string ⟨#[]⟩, .int .i64 2] 82) (by simp : _ = w.heap.size + 1)
    exact bodyPost_ret (v := .agg #[.slice none 0 0, .string ⟨#[]⟩, .int .i64 2]) (results_cell_row Tryd.results56 _ _ (w.heap.size + 1) 82 _ (0, 0) _ (by rfl) (HO2.blk 0 rfl) Tryd.underlying82 rfl (by kernel_rfl)) rfl ⟨rfl, HO2.below⟩

  · have e1 : ((r.size : Int) != 32) = true := by rw [bne_iff_ne]; omega
    clear hs h1
    go_enter Tryd.func56, Tryd.ntmps56
    go_wp2
    have HO2 := ((Own.start w).alloc' (.cells #[.slice A1 64 c1, .slice A2 8 c2] 37) rfl).alloc' (.cells #[.slice none 0 0, .string ⟨#[]⟩, .int .i64 2] 82) (by simp : _ = w.heap.size + 1)
    exact bodyPost_ret (v := .agg #[.slice none 0 0, .string ⟨#[]⟩, .int .i64 2]) (results_cell_row Tryd.results56 _ _ (w.heap.size + 1) 82 _ (0, 0) _ (by rfl) (HO2.blk 0 rfl) Tryd.underlying82 rfl (by kernel_rfl)) rfl ⟨rfl, HO2.below⟩

set_option maxHeartbeats 8000000 in
set_option maxRecDepth 100000 in
theorem RFill_gap (A1 : Option Addr) (c1 : Nat) (A2 : Option Addr) (c2 : Nat) (A : Option Addr) (n c : Nat) (r b : ByteArray) (f t : Nat) (w : World) (h1 : r.size = 32) (h2 : b.size = 32) (ht : t < 18446744073709551616) (hg : t < f ∨ f + 10 < t) :
    Calls Tryd.prog 56 #[kV A1 c1 A2 c2, .slice A n c, .string r, .string b, .int .u64 (f : Int), .int .u64 (t : Int)] w fun e w' => e = .returned (.agg #[.slice none 0 0, .string ⟨#[]⟩, .int .i64 8]) ∧ Below w.heap.size w w' := by
  unfold kV
  have HO := ((Own.start w).alloc' (.cells #[.slice A1 64 c1, .slice A2 8 c2] 37) rfl).alloc' (.cells #[.slice none 0 0, .string ⟨#[]⟩, .int .i64 0] 82) (by simp : _ = w.heap.size + 1)
  have c0 := HO.cell 0 rfl
  have f0 := HO.frozen 0 rfl
  have e1 : ((r.size : Int) != 32) = false := by rw [h1]; rfl
  have e2 : ((b.size : Int) != 32) = false := by rw [h2]; rfl
  clear h1 h2
  rcases hg with hg | hg
  · have hg1 : (f : Int) > (t : Int) := by omega
    go_enter Tryd.func56, Tryd.ntmps56
    go_wp2
    have HO2 := ((Own.start w).alloc' (.cells #[.slice A1 64 c1, .slice A2 8 c2] 37) rfl).alloc' (.cells #[.slice none 0 0, .string ⟨#[]⟩, .int .i64 8] 82) (by simp : _ = w.heap.size + 1)
    exact bodyPost_ret (v := .agg #[.slice none 0 0, .string ⟨#[]⟩, .int .i64 8]) (results_cell_row Tryd.results56 _ _ (w.heap.size + 1) 82 _ (0, 0) _ (by rfl) (HO2.blk 0 rfl) Tryd.underlying82 rfl (by kernel_rfl)) rfl ⟨rfl, HO2.below⟩

  · have hg1 : ¬ ((f : Int) > (t : Int)) := by omega
    have hw : IntKind.u64.wrap ((t : Int) - (f : Int)) = (t : Int) - (f : Int) := by show ((t : Int) - (f : Int)) % 18446744073709551616 = _; omega
    have hg2 : (t : Int) - (f : Int) > 10 := by omega
    go_enter Tryd.func56, Tryd.ntmps56
    go_wp2
    have HO2 := ((Own.start w).alloc' (.cells #[.slice A1 64 c1, .slice A2 8 c2] 37) rfl).alloc' (.cells #[.slice none 0 0, .string ⟨#[]⟩, .int .i64 8] 82) (by simp : _ = w.heap.size + 1)
    exact bodyPost_ret (v := .agg #[.slice none 0 0, .string ⟨#[]⟩, .int .i64 8]) (results_cell_row Tryd.results56 _ _ (w.heap.size + 1) 82 _ (0, 0) _ (by rfl) (HO2.blk 0 rfl) Tryd.underlying82 rfl (by kernel_rfl)) rfl ⟨rfl, HO2.below⟩

set_option maxHeartbeats 8000000 in
set_option maxRecDepth 100000 in
theorem RFill_yes (A1 : Option Addr) (c1 : Nat) (A2 : Option Addr) (c2 : Nat) (A : Option Addr) (n c : Nat) (xs : List KeptD) (r b : ByteArray) (f t : Nat) (w : World) (hK : KAt w A1 c1 A2 c2) (hc : Kd.C kK w A n xs) (hnc : n ≤ c) (hcc : c ≤ 9223372036854775807) (hn : n ≤ 20) (h1 : r.size = 32) (h2 : b.size = 32) (ht : t < 18446744073709551616) (hg1 : f ≤ t) (hg2 : t ≤ f + 10) :
    Calls Tryd.prog 56 #[kV A1 c1 A2 c2, .slice A n c, .string r, .string b, .int .u64 (f : Int), .int .u64 (t : Int)] w fun e w' => RFillRes xs r b f t e w' ∧ Below w.heap.size w w' := by
  unfold kV
  have HO := ((Own.start w).alloc' (.cells #[.slice A1 64 c1, .slice A2 8 c2] 37) rfl).alloc' (.cells #[.slice none 0 0, .string ⟨#[]⟩, .int .i64 0] 82) (by simp : _ = w.heap.size + 1)
  have c0 := HO.cell 0 rfl
  have f0 := HO.frozen 0 rfl
  have e1 : ((r.size : Int) != 32) = false := by rw [h1]; rfl
  have e2 : ((b.size : Int) != 32) = false := by rw [h2]; rfl
  have g1 : ¬ ((f : Int) > (t : Int)) := by omega
  have hw : IntKind.u64.wrap ((t : Int) - (f : Int)) = (t : Int) - (f : Int) := by show ((t : Int) - (f : Int)) % 18446744073709551616 = _; omega
  have g2 : ¬ ((t : Int) - (f : Int) > 10) := by omega
  have g3 : decide (10 < (t : Int) - (f : Int)) = false := decide_eq_false (by omega)
  have g5 : decide (t < f) = false := decide_eq_false (by omega)
  have HC := Lib.hid (fun w1 (hg : Gr w w1) => Kd.C_below hc hg)
  have HK := Lib.hid (fun w1 (hg : Gr w w1) => hK.up hg)
  have H2 := Lib.hid h2
  have hlx := hc.1
  have HLX := Lib.hid hlx
  clear hc hK h1 h2 hlx
  go_enter Tryd.func56, Tryd.ntmps56
  go_wp2_with fail
  clear e1 e2 g1 hw c0 f0
  go_loopw [13] (fun c13 wr => ∃ q : Nat, c13 = .int .u64 (q : Int) ∧ Aside0 (f ≤ q ∧ q ≤ t ∧ ∀ m, f ≤ m → m < q → atI xs r m < 0) ∧ Aside0 (Own w [(w.heap.size + 1, .cells #[.slice none 0 0, .string ⟨#[]⟩, .int .i64 0] 82 (0, 0)), (w.heap.size, .cells #[.slice A1 64 c1, .slice A2 8 c2] 37 (0, 0))] wr)) (fun c13 _ => t - (intOf c13).toNat)
  case atStart => exact ⟨f, rfl, ⟨by omega, by omega, fun m h1 h2 => by omega⟩, ⟨HO⟩⟩
  case round =>
    clear HO
    obtain ⟨q, rfl, Hi, HOA⟩ := hrel
    have HO := HOA.out
    clear HOA
    have hP := RAt_any A n c xs r q wr (HC.out _ HO.below) hnc (by omega)
    by_cases hlt : q < t
    · have i1 : (q : Int) < (t : Int) := by omega
      by_cases hat : 0 ≤ atI xs r q
      · have HP := Lib.hid hP
        have HE := Lib.hid (show ∃ m, f ≤ m ∧ m < t ∧ 0 ≤ atI xs r m from ⟨q, Hi.out.1, hlt, hat⟩)
        generalize atI xs r q = z at *
        clear hP
        go_wp2_with fail
        refine HP.out.mono ?_
        rintro e w2 ⟨rfl, hb⟩
        replace HO := HO.up hb
        clear hb
        have c0 := HO.cell 0 rfl
        have f0 := HO.frozen 0 rfl
        go_wp2
        have HO2 := ((HO.set' 0 rfl 0 (.slice none 0 0) (L' := [(w.heap.size + 1, .cells #[.slice none 0 0, .string ⟨#[]⟩, .int .i64 0] 82 (0, 0)), (w.heap.size, .cells #[.slice A1 64 c1, .slice A2 8 c2] 37 (0, 0))]) rfl).set' 0 rfl 1 (.string ⟨#[]⟩) (L' := [(w.heap.size + 1, .cells #[.slice none 0 0, .string ⟨#[]⟩, .int .i64 0] 82 (0, 0)), (w.heap.size, .cells #[.slice A1 64 c1, .slice A2 8 c2] 37 (0, 0))]) rfl).set' 0 rfl 2 (.int .i64 7) (L' := [(w.heap.size + 1, .cells #[.slice none 0 0, .string ⟨#[]⟩, .int .i64 7] 82 (0, 0)), (w.heap.size, .cells #[.slice A1 64 c1, .slice A2 8 c2] 37 (0, 0))]) rfl
        exact bodyPost_ret (v := .agg #[.slice none 0 0, .string ⟨#[]⟩, .int .i64 7]) (results_cell_row Tryd.results56 _ _ (w.heap.size + 1) 82 _ (0, 0) _ (by rfl) (HO2.blk 0 rfl) Tryd.underlying82 rfl (by kernel_rfl)) rfl ⟨Or.inl ⟨HE.out, rfl⟩, HO2.below⟩

      · have HAt := Lib.hid (show ∀ m, f ≤ m → m < q + 1 → atI xs r m < 0 from fun m h1 h2 => by
          rcases Nat.lt_or_ge m q with h | h
          · exact Hi.out.2.2 m h1 h
          · obtain rfl : m = q := by omega
            omega)
        have HP := Lib.hid hP
        have hz : ¬ (atI xs r q ≥ 0) := by omega
        have hw1 : IntKind.u64.wrap ((q : Int) + 1) = (q : Int) + 1 := by show ((q : Int) + 1) % 18446744073709551616 = _; omega
        clear hP hat
        generalize atI xs r q = z at *
        go_wp2_with fail
        refine HP.out.mono ?_
        rintro e w2 ⟨rfl, hb⟩
        have HOh := Lib.hid (HO.up hb)
        clear hb HO
        go_wp2
        go_roundw
        case rel => exact ⟨q + 1, by go_num, ⟨by have := Hi.out.1; omega, by omega, HAt.out⟩, ⟨HOh.out⟩⟩
        case measure => simp [intOf]; omega
    · have hq : q = t := by have := Hi.out.2.1; omega
      have HNo := Lib.hid (show ∀ m, f ≤ m → m < t → atI xs r m < 0 from fun m h1 h2 => Hi.out.2.2 m h1 (by omega))
      have i1 : ¬ ((q : Int) < (t : Int)) := by omega
      have HO0 := Lib.hid (show Out kK (wr.alloc (.cells #[.slice A n c, .string b, .int .i64 0] 82)) (.slice A n c) xs from ⟨A, c, by rw [HLX.out], by rw [HLX.out]; exact hnc, hcc, by rw [HLX.out]; exact HC.out _ (below_alloc HO.below _)⟩)
      replace HO := HO.alloc' (.cells #[.slice A n c, .string b, .int .i64 0] 82) rfl
      clear Hi hq hlt hP
      go_wp2_with fail
      generalize wr.heap.size = g at *
      generalize World.alloc wr _ = wx at *
      have HO1 := Lib.hid HO
      clear HO
      go_loopw [15] (fun c15 wq => ∃ (q : Nat) (v : Value), c15 = .int .u64 (q : Int) ∧ Aside0 (f ≤ q ∧ q ≤ t) ∧ Aside0 (Out kK wq v (flF xs r b f (q - f)).1) ∧ Aside0 (Own w [(g, .cells #[v, .string (flF xs r b f (q - f)).2, .int .i64 0] 82 (0, 0)), (w.heap.size + 1, .cells #[.slice none 0 0, .string ⟨#[]⟩, .int .i64 0] 82 (0, 0)), (w.heap.size, .cells #[.slice A1 64 c1, .slice A2 8 c2] 37 (0, 0))] wq)) (fun c15 _ => t - (intOf c15).toNat)
      case atStart => exact ⟨f, _, rfl, ⟨by omega, by omega⟩, ⟨by rw [Nat.sub_self]; exact HO0.out⟩, ⟨by rw [Nat.sub_self]; exact HO1.out⟩⟩
      case round =>
        clear HO0 HO1
        obtain ⟨q, v, rfl, Hq, HOut, HOA⟩ := hrel
        have HO := HOA.out
        clear HOA
        by_cases hlt : q < t
        · have i2 : (q : Int) < (t : Int) := by omega
          have HSt := Lib.hid (fun w1 (hg : Gr w w1) => RStep_any A1 c1 A2 c2 (flF xs r b f (q - f)).2 w1 (HK.out _ hg) (by rw [flF_size xs r b f (q - f) H2.out]; decide))
          unfold kV at HSt
          have HF := Lib.hid (show flF xs r b f (q + 1 - f) = (putK (flF xs r b f (q - f)).1 ⟨r, q, stK (flF xs r b f (q - f)).2⟩, stN (flF xs r b f (q - f)).2) by
            have := Hq.out.1
            rw [show q + 1 - f = (q - f) + 1 by omega]
            show (putK _ ⟨r, f + (q - f), _⟩, _) = _
            rw [show f + (q - f) = q by omega])
          have hlen := flF_len20 xs r b f (q - f) (by rw [HLX.out]; exact hn)
          obtain ⟨A', c', hv, h1', h2', hC'⟩ := HOut.out
          have HC' := Lib.hid hC'
          subst hv
          clear hC' HOut
          generalize (flF xs r b f (q - f)).1 = ys at *
          generalize (flF xs r b f (q - f)).2 = cc at *
          have HPR := Lib.hid (putK_ref ys ⟨r, q, stK cc⟩ hlen)
          have HL' := Lib.hid hlen
          clear hlen
          generalize hsn : stN cc = sn at *
          generalize hsk : stK cc = sk at *
          clear hsn hsk
          have hw1 : IntKind.u64.wrap ((q : Int) + 1) = (q : Int) + 1 := by show ((q : Int) + 1) % 18446744073709551616 = _; omega
          have c0 := HO.cell 0 rfl
          have c2' := HO.cell 2 rfl
          go_wp2_with fail
          clear c0 c2'
          refine (HSt.out _ HO.below).mono ?_
          rintro e w3 ⟨rfl, hb⟩
          have hb3 := below_alloc hb (.cells #[.string sn, .string sk] 64)
          have HC3 := Lib.hid (Kd.C_below HC'.out hb3)
          replace HO := (HO.up hb).alloc' (.cells #[.string sn, .string sk] 64) rfl
          clear hb hb3 HSt HC'
          have c0 := HO.cell 0 rfl
          have c1' := HO.cell 1 rfl
          have f1 := HO.frozen 1 rfl
          go_wp2_with fail
          clear c0 c1' f1
          generalize w3.heap.size = gp at *
          generalize World.alloc w3 _ = w3' at *
          have hPut := RPut_any A' ys.length c' ys ⟨r, q, sk⟩ w3' HC3.out h1' (by have := HL'.out; omega)
          rw [HPR.out] at hPut
          refine hPut.mono ?_
          rintro e w4 ⟨⟨v', rfl, A'', c'', rfl, h1'', h2'', hC''⟩, hb⟩
          replace HO := HO.up hb
          clear hb HC3 hPut
          have hb0 := HO.blk 1 rfl
          have hD1 := C_setFar (j := 0) (u := .slice A'' (putK ys ⟨r, q, sk⟩).length c'') hC'' (keptNe hC'' hb0 (fun s h => by cases h))
          have HO2 := HO.set' 1 rfl 0 (.slice A'' (putK ys ⟨r, q, sk⟩).length c'') (L' := [(gp, .cells #[.string sn, .string sk] 64 (0, 0)), (g, .cells #[(.slice A'' (putK ys ⟨r, q, sk⟩).length c''), .string cc, .int .i64 0] 82 (0, 0)), (w.heap.size + 1, .cells #[.slice none 0 0, .string ⟨#[]⟩, .int .i64 0] 82 (0, 0)), (w.heap.size, .cells #[.slice A1 64 c1, .slice A2 8 c2] 37 (0, 0))]) rfl
          have hD2 := C_setFar (j := 1) (u := .string sn) hD1 (keptNe hD1 (HO2.blk 1 rfl) (fun s h => by cases h))
          have HO3 := (HO2.set' 1 rfl 1 (.string sn) (L' := [(gp, .cells #[.string sn, .string sk] 64 (0, 0)), (g, .cells #[(.slice A'' (putK ys ⟨r, q, sk⟩).length c''), .string sn, .int .i64 0] 82 (0, 0)), (w.heap.size + 1, .cells #[.slice none 0 0, .string ⟨#[]⟩, .int .i64 0] 82 (0, 0)), (w.heap.size, .cells #[.slice A1 64 c1, .slice A2 8 c2] 37 (0, 0))]) rfl).drop _ (List.tail_sublist _)
          have HOU := Lib.hid (show Out kK _ (.slice A'' (putK ys ⟨r, q, sk⟩).length c'') (putK ys ⟨r, q, sk⟩) from ⟨A'', c'', rfl, h1'', h2'', hD2⟩)
          have HOh := Lib.hid HO3
          have c0 := HO.cell 0 rfl
          have c1' := HO.cell 1 rfl
          have f1 := HO.frozen 1 rfl
          have c0x := HO2.cell 0 rfl
          clear hD1 hD2 HO2 HO3 hb0 hC'' HPR
          go_wp2_with fail
          clear c0 c1' f1 c0x
          go_roundw
          case rel => exact ⟨q + 1, _, by go_num, ⟨by have := Hq.out.1; omega, by omega⟩, ⟨by rw [HF.out]; exact HOU.out⟩, ⟨by rw [HF.out]; exact HOh.out⟩⟩
          case measure => simp [intOf]; omega
        · obtain rfl : q = t := by have := Hq.out.2; omega
          have i2 : ¬ ((q : Int) < (q : Int)) := by omega
          obtain ⟨A', c', rfl, h1', h2', hC'⟩ := HOut.out
          clear HOut
          have hb0 := HO.blk 1 rfl
          have hne := keptNe hC' hb0 (fun s h => by cases h)
          have HO2 := ((HO.set' 1 rfl 0 (.slice A' (flF xs r b f (q - f)).1.length c') (L' := [(g, .cells #[.slice A' (flF xs r b f (q - f)).1.length c', .string (flF xs r b f (q - f)).2, .int .i64 0] 82 (0, 0)), (w.heap.size + 1, .cells #[.slice A' (flF xs r b f (q - f)).1.length c', .string ⟨#[]⟩, .int .i64 0] 82 (0, 0)), (w.heap.size, .cells #[.slice A1 64 c1, .slice A2 8 c2] 37 (0, 0))]) rfl).set' 1 rfl 1 (.string (flF xs r b f (q - f)).2) (L' := [(g, .cells #[.slice A' (flF xs r b f (q - f)).1.length c', .string (flF xs r b f (q - f)).2, .int .i64 0] 82 (0, 0)), (w.heap.size + 1, .cells #[.slice A' (flF xs r b f (q - f)).1.length c', .string (flF xs r b f (q - f)).2, .int .i64 0] 82 (0, 0)), (w.heap.size, .cells #[.slice A1 64 c1, .slice A2 8 c2] 37 (0, 0))]) rfl).set' 1 rfl 2 (.int .i64 0) (L' := [(g, .cells #[.slice A' (flF xs r b f (q - f)).1.length c', .string (flF xs r b f (q - f)).2, .int .i64 0] 82 (0, 0)), (w.heap.size + 1, .cells #[.slice A' (flF xs r b f (q - f)).1.length c', .string (flF xs r b f (q - f)).2, .int .i64 0] 82 (0, 0)), (w.heap.size, .cells #[.slice A1 64 c1, .slice A2 8 c2] 37 (0, 0))]) rfl
          have hD := C_setFar (j := 2) (u := .int .i64 0) (C_setFar (j := 1) (u := .string (flF xs r b f (q - f)).2) (C_setFar (j := 0) (u := .slice A' (flF xs r b f (q - f)).1.length c') hC' hne) hne) hne
          have HOU := Lib.hid (show Out kK _ (.slice A' (flF xs r b f (q - f)).1.length c') (flF xs r b f (q - f)).1 from ⟨A', c', rfl, h1', h2', hD⟩)
          have HOh := Lib.hid HO2
          have c0 := HO.cell 0 rfl
          have c1' := HO.cell 1 rfl
          have f1 := HO.frozen 1 rfl
          clear hD HO2 hb0 hC' hne
          generalize hcc2 : (flF xs r b f (q - f)).2 = cc at *
          have HCC2 := Lib.hid hcc2
          clear hcc2
          go_wp2_with fail
          exact bodyPost_ret (v := .agg #[.slice A' (flF xs r b f (q - f)).1.length c', .string cc, .int .i64 0]) (results_cell_row Tryd.results56 _ _ (w.heap.size + 1) 82 _ (0, 0) _ (by rfl) (HOh.out.blk 1 rfl) Tryd.underlying82 rfl (by kernel_rfl)) rfl ⟨Or.inr ⟨HNo.out, _, by rw [HCC2.out], HOU.out⟩, HOh.out.below⟩
end Go.Proofs.YtpafocjmheemjaaDoor.Sk

set_option linter.unusedSimpArgs false
/- LAYER 12: SkippedFills. -/
namespace Go.Proofs.YtpafocjmheemjaaDoor.Sk
open Go.RowKit Go.Proofs.YtpafocjmheemjaaDoorW.PrintWords Go.Proofs.YtpafocjmheemjaaDoorW.PrintLast
attribute [local irreducible] Calls mixF
theorem RFill_any (A1 : Option Addr) (c1 : Nat) (A2 : Option Addr) (c2 : Nat) (A : Option Addr) (n c : Nat) (xs : List KeptD) (r b : ByteArray) (f t : Nat) (w : World) (hK : KAt w A1 c1 A2 c2) (hc : Kd.C kK w A n xs) (hnc : n ≤ c) (hcc : c ≤ 9223372036854775807) (hn : n ≤ 20) (hr : rightK xs = true) (ht : t < 18446744073709551616) :
    Calls Tryd.prog 56 #[kV A1 c1 A2 c2, .slice A n c, .string r, .string b, .int .u64 (f : Int), .int .u64 (t : Int)] w fun e w' => (∃ v, e = .returned (.agg #[v, .string (fillS xs r b f t), .int .i64 (fillE xs r b f t)]) ∧ Out kK w' v (fillL xs r b f t)) ∧ Below w.heap.size w w' := by
  have bad : ∀ E : Int, fillE xs r b f t = E → E ≠ 0 → fillS xs r b f t = ⟨#[]⟩ ∧ fillL xs r b f t = [] := fun E h h0 => by
    unfold fillS fillL
    rw [if_neg (by rw [h]; exact h0), if_neg (by rw [h]; exact h0)]
    exact ⟨rfl, rfl⟩
  by_cases hs : ¬ (r.size = 32 ∧ b.size = 32)
  · have hE : fillE xs r b f t = 2 := by unfold fillE; rw [if_neg (by rw [hr]; decide), if_pos hs]
    obtain ⟨h1, h2⟩ := bad 2 hE (by decide)
    rw [hE, h1, h2]
    refine (RFill_size A1 c1 A2 c2 A n c r b f t w hs).mono ?_
    rintro e w' ⟨rfl, hb⟩
    exact ⟨⟨_, rfl, Out_nil _ _⟩, hb⟩
  replace hs := Decidable.of_not_not hs
  by_cases hg : t < f ∨ f + 10 < t
  · have hE : fillE xs r b f t = 8 := by unfold fillE; rw [if_neg (by rw [hr]; decide), if_neg (not_not_intro hs), if_pos hg]
    obtain ⟨h1, h2⟩ := bad 8 hE (by decide)
    rw [hE, h1, h2]
    refine (RFill_gap A1 c1 A2 c2 A n c r b f t w hs.1 hs.2 ht hg).mono ?_
    rintro e w' ⟨rfl, hb⟩
    exact ⟨⟨_, rfl, Out_nil _ _⟩, hb⟩
  refine (RFill_yes A1 c1 A2 c2 A n c xs r b f t w hK hc hnc hcc hn hs.1 hs.2 ht (by omega) (by omega)).mono ?_
  rintro e w' ⟨h | h, hb⟩
  · obtain ⟨⟨m, h1, h2, h3⟩, rfl⟩ := h
    have hE : fillE xs r b f t = 7 := by unfold fillE; rw [if_neg (by rw [hr]; decide), if_neg (not_not_intro hs), if_neg hg, if_pos (oldB_yes h1 h2 h3)]
    obtain ⟨k1, k2⟩ := bad 7 hE (by decide)
    rw [hE, k1, k2]
    exact ⟨⟨_, rfl, Out_nil _ _⟩, hb⟩
  · obtain ⟨h, v, rfl, hO⟩ := h
    have hE : fillE xs r b f t = 0 := by unfold fillE; rw [if_neg (by rw [hr]; decide), if_neg (not_not_intro hs), if_neg hg, if_neg (by rw [oldB_no h]; decide)]
    unfold fillS fillL
    rw [if_pos hE, if_pos hE, hE]
    exact ⟨⟨v, rfl, hO⟩, hb⟩
theorem fillL_len (xs : List KeptD) (r b : ByteArray) (f t : Nat) (h : xs.length ≤ 20) : (fillL xs r b f t).length ≤ 20 := by
  unfold fillL
  split
  · exact flF_len20 _ _ _ _ _ h
  · exact Nat.zero_le _
theorem C_take22 {W : World} {A : Option Addr} {n0 : Nat} {xs0 : List KeptD} (hC : Kd.C kK W A n0 xs0) : Kd.C kK W A (min n0 22) (xs0.take 22) := by
  refine ⟨by rw [List.length_take]; have := hC.1; omega, by omega, fun h0 => ?_⟩
  obtain ⟨ad, e, hh⟩ := hC.2.2 (by omega)
  refine ⟨ad, e, fun j p hj => hh j p ?_⟩
  rw [List.getElem?_take] at hj
  split at hj
  · exact hj
  · cases hj
set_option maxHeartbeats 8000000 in
set_option maxRecDepth 100000 in
theorem SkippedFills_no (A : Option Addr) (n0 c : Nat) (xs0 : List KeptD) (r b0 : ByteArray) (f t : Nat) (W : World) (hC : Kd.C kK W A n0 xs0) (hc : n0 ≤ c) (hcc : c ≤ 9223372036854775807) (ht : t < 18446744073709551616) (hK : KeysAt W) (hr : rightK (xs0.take 22) = false) :
    Calls Tryd.prog 13 #[.slice A n0 c, .string r, .string b0, .int .u64 (f : Int), .int .u64 (t : Int)] W fun e W' => e = .returned (.bool true) ∧ Below W.heap.size W W' := by
  have HFew := Lib.hid (fun w1 => (few12_any A n0 c w1 hc).mono (R' := fun e w' => e = .returned (.slice A (min n0 22) c) ∧ Below w1.heap.size w1 w') (fun e w' h => ⟨h.1, h.2 ▸ Below.refl _ _⟩))
  have hC22 : Kd.C kK W A (min n0 22) (xs0.take 22) := C_take22 hC
  have hn22 : min n0 22 ≤ 22 := by omega
  have hc22 : min n0 22 ≤ c := by omega
  generalize min n0 22 = n at *
  generalize xs0.take 22 = xs at *
  generalize hbb : headB b0 40 = b at *
  have HBB := Lib.hid hbb
  clear hbb
  have HB := Lib.hid (Below.refl W.heap.size W)
  have hlx := hC22.1
  have HR := Lib.hid (fun w1 (hg : Gr W w1) => RRight_any A n c xs w1 (Kd.C_below hC22 hg) hc22 (by omega))
  have HF := Lib.hid (fun w1 (hg : Gr W w1) => Fill_any A n c xs r b f t w1 (Kd.C_below hC22 hg) hc22 hcc (by omega) ht (hK.up hg))
  have hE : fillE xs r b f t = 1 := by unfold fillE; rw [if_pos hr]
  have hS : fillS xs r b f t = ⟨#[]⟩ := by unfold fillS; rw [if_neg (by rw [hE]; decide)]
  have hL : fillL xs r b f t = [] := by unfold fillL; rw [if_neg (by rw [hE]; decide)]
  rw [hE, hS, hL] at HF
  rw [hr] at HR
  unfold FillR at HF
  clear hC hC22 hK hr hE hS hL hlx
  go_enter Tryd.func13, Tryd.ntmps13
  go_wp2_with fail
  refine kall [(0, true, some 15), (2, true, some 17), (3, true, some 18), (4, true, some 19), (5, true, some 20), (6, true, some 21), (1, true, some 16), (7, true, some 0), (8, true, some 2)] (by kernel_rfl) rfl (by kernel_rfl) rfl (fun _ _ _ _ _ h => h) ?_
  (refine sP (v := ?_) (a' := ?_) rfl rfl (by rfl) ?_ ?_ ?_; rotate_left 2; (· intro w'; go_simp; with_reducible rfl); (· simp only [Act.put, List.setIfInBounds_toArray, List.set_cons_zero, List.set_cons_succ, kw64, kw32]; rfl))
  (refine sP (v := ?_) (a' := ?_) rfl rfl (by rfl) ?_ ?_ ?_; rotate_left 2; (· intro w'; go_simp; with_reducible rfl); (· simp only [Act.put, List.setIfInBounds_toArray, List.set_cons_zero, List.set_cons_succ, kw64, kw32]; rfl))
  (refine sP (v := ?_) (a' := ?_) rfl rfl (by rfl) ?_ ?_ ?_; rotate_left 2; (· intro w'; go_simp; with_reducible rfl); (· simp only [Act.put, List.setIfInBounds_toArray, List.set_cons_zero, List.set_cons_succ, kw64, kw32]; rfl))
  (refine sP (v := ?_) (a' := ?_) rfl rfl (by rfl) ?_ ?_ ?_; rotate_left 2; (· intro w'; go_simp; with_reducible rfl); (· simp only [Act.put, List.setIfInBounds_toArray, List.set_cons_zero, List.set_cons_succ, kw64, kw32]; rfl))
  (refine sP (v := ?_) (a' := ?_) rfl rfl (by rfl) ?_ ?_ ?_; rotate_left 2; (· intro w'; go_simp; with_reducible rfl); (· simp only [Act.put, List.setIfInBounds_toArray, List.set_cons_zero, List.set_cons_succ, kw64, kw32]; rfl))
  (refine sP (v := .string b) (a' := ?_) rfl rfl (by rfl) ?_ ?_ ?_; rotate_left 1; (· intro w'; go_simp; rw [if_pos ⟨by omega, by omega⟩, ← HBB.out, headB, ← show (min (b0.size : Int) 40).toNat = min b0.size 40 by omega]); (· simp only [Act.put, List.setIfInBounds_toArray, List.set_cons_zero, List.set_cons_succ, kw64, kw32]; rfl))
  (refine sD (v := ?_) (a' := ?_) Tryd.func52 rfl rfl (by rfl) rfl (by kernel_rfl) rfl (by rfl) ?_ ?_ ?_; rotate_left 2; (· intro w1 hg; exact HFew.out w1); (· simp only [Act.put, List.setIfInBounds_toArray, List.set_cons_zero, List.set_cons_succ, kw64, kw32]; rfl))
  (refine sP (v := ?_) (a' := ?_) rfl rfl (by rfl) ?_ ?_ ?_; rotate_left 2; (· intro w'; go_simp; with_reducible rfl); (· simp only [Act.put, List.setIfInBounds_toArray, List.set_cons_zero, List.set_cons_succ, kw64, kw32]; rfl))
  (refine sP (v := ?_) (a' := ?_) rfl rfl (by rfl) ?_ ?_ ?_; rotate_left 2; (· intro w'; go_simp; with_reducible rfl); (· simp only [Act.put, List.setIfInBounds_toArray, List.set_cons_zero, List.set_cons_succ, kw64, kw32]; rfl))
  intro w1 hg
  replace HB := Lib.hid (below_step HB.out hg)
  clear hg
  go_wp2_with fail
  refine (HF.out _ HB.out).mono ?_
  rintro e w2 ⟨⟨v1, rfl, A1', c1', rfl, hn1, hc1, hC1⟩, hb⟩
  replace HB := Lib.hid (below_step HB.out hb)
  have HC1 := Lib.hid hC1
  clear hb hC1 HF
  go_wp2_with fail
  refine (HR.out _ HB.out).mono ?_
  rintro e w3 ⟨rfl, hb⟩
  replace HB := Lib.hid (below_step HB.out hb)
  replace HC1 := Lib.hid (Kd.C_below HC1.out hb)
  clear hb HR
  go_wp2_with fail
  refine (alive12_any _).mono ?_
  rintro e w5 ⟨rfl, hb⟩
  replace HB := Lib.hid (below_step HB.out hb)
  clear hb HC1
  go_wp2
  go_ret
  exact ⟨rfl, HB.out⟩
set_option maxHeartbeats 8000000 in
set_option maxRecDepth 100000 in
theorem SkippedFills_yes (A : Option Addr) (n0 c : Nat) (xs0 : List KeptD) (r b0 : ByteArray) (f t : Nat) (W : World) (hC : Kd.C kK W A n0 xs0) (hc : n0 ≤ c) (hcc : c ≤ 9223372036854775807) (ht : t < 18446744073709551616) (hK : KeysAt W) (hr : rightK (xs0.take 22) = true) :
    Calls Tryd.prog 13 #[.slice A n0 c, .string r, .string b0, .int .u64 (f : Int), .int .u64 (t : Int)] W fun e W' => e = .returned (.bool true) ∧ Below W.heap.size W W' := by
  have HFew := Lib.hid (fun w1 => (few12_any A n0 c w1 hc).mono (R' := fun e w' => e = .returned (.slice A (min n0 22) c) ∧ Below w1.heap.size w1 w') (fun e w' h => ⟨h.1, h.2 ▸ Below.refl _ _⟩))
  have hC22 : Kd.C kK W A (min n0 22) (xs0.take 22) := C_take22 hC
  have hn22 : min n0 22 ≤ 22 := by omega
  have hc22 : min n0 22 ≤ c := by omega
  generalize min n0 22 = n at *
  generalize xs0.take 22 = xs at *
  generalize hbb : headB b0 40 = b at *
  have HBB := Lib.hid hbb
  clear hbb
  have HB := Lib.hid (Below.refl W.heap.size W)
  have hlx := hC22.1
  have HR := Lib.hid (fun w1 (hg : Gr W w1) => RRight_any A n c xs w1 (Kd.C_below hC22 hg) hc22 (by omega))
  have HF := Lib.hid (fun w1 (hg : Gr W w1) => Fill_any A n c xs r b f t w1 (Kd.C_below hC22 hg) hc22 hcc (by omega) ht (hK.up hg))
  have hx20 : xs.length ≤ 20 := by
    unfold rightK at hr
    have := (Bool.and_eq_true_iff.1 hr).2
    simpa using this
  have HRF := Lib.hid (fun A1 c1 A2 c2 w1 (hg : Gr W w1) (hk : KAt w1 A1 c1 A2 c2) => RFill_any A1 c1 A2 c2 A n c xs r b f t w1 hk (Kd.C_below hC22 hg) hc22 hcc (by omega) hr ht)
  have hlen := fillL_len xs r b f t hx20
  rw [hr] at HR
  unfold FillR at HF
  unfold kV at HRF
  clear hC hC22 hK hr hlx hx20
  generalize fillL xs r b f t = L at *
  generalize fillS xs r b f t = s at *
  generalize fillE xs r b f t = E at *
  have es : (s.toList == s.toList) = true := by simp
  go_enter Tryd.func13, Tryd.ntmps13
  go_wp2_with fail
  refine kall [(0, true, some 15), (2, true, some 17), (3, true, some 18), (4, true, some 19), (5, true, some 20), (6, true, some 21), (1, true, some 16), (7, true, some 0), (8, true, some 2)] (by kernel_rfl) rfl (by kernel_rfl) rfl (fun _ _ _ _ _ h => h) ?_
  (refine sP (v := ?_) (a' := ?_) rfl rfl (by rfl) ?_ ?_ ?_; rotate_left 2; (· intro w'; go_simp; with_reducible rfl); (· simp only [Act.put, List.setIfInBounds_toArray, List.set_cons_zero, List.set_cons_succ, kw64, kw32]; rfl))
  (refine sP (v := ?_) (a' := ?_) rfl rfl (by rfl) ?_ ?_ ?_; rotate_left 2; (· intro w'; go_simp; with_reducible rfl); (· simp only [Act.put, List.setIfInBounds_toArray, List.set_cons_zero, List.set_cons_succ, kw64, kw32]; rfl))
  (refine sP (v := ?_) (a' := ?_) rfl rfl (by rfl) ?_ ?_ ?_; rotate_left 2; (· intro w'; go_simp; with_reducible rfl); (· simp only [Act.put, List.setIfInBounds_toArray, List.set_cons_zero, List.set_cons_succ, kw64, kw32]; rfl))
  (refine sP (v := ?_) (a' := ?_) rfl rfl (by rfl) ?_ ?_ ?_; rotate_left 2; (· intro w'; go_simp; with_reducible rfl); (· simp only [Act.put, List.setIfInBounds_toArray, List.set_cons_zero, List.set_cons_succ, kw64, kw32]; rfl))
  (refine sP (v := ?_) (a' := ?_) rfl rfl (by rfl) ?_ ?_ ?_; rotate_left 2; (· intro w'; go_simp; with_reducible rfl); (· simp only [Act.put, List.setIfInBounds_toArray, List.set_cons_zero, List.set_cons_succ, kw64, kw32]; rfl))
  (refine sP (v := .string b) (a' := ?_) rfl rfl (by rfl) ?_ ?_ ?_; rotate_left 1; (· intro w'; go_simp; rw [if_pos ⟨by omega, by omega⟩, ← HBB.out, headB, ← show (min (b0.size : Int) 40).toNat = min b0.size 40 by omega]); (· simp only [Act.put, List.setIfInBounds_toArray, List.set_cons_zero, List.set_cons_succ, kw64, kw32]; rfl))
  (refine sD (v := ?_) (a' := ?_) Tryd.func52 rfl rfl (by rfl) rfl (by kernel_rfl) rfl (by rfl) ?_ ?_ ?_; rotate_left 2; (· intro w1 hg; exact HFew.out w1); (· simp only [Act.put, List.setIfInBounds_toArray, List.set_cons_zero, List.set_cons_succ, kw64, kw32]; rfl))
  (refine sP (v := ?_) (a' := ?_) rfl rfl (by rfl) ?_ ?_ ?_; rotate_left 2; (· intro w'; go_simp; with_reducible rfl); (· simp only [Act.put, List.setIfInBounds_toArray, List.set_cons_zero, List.set_cons_succ, kw64, kw32]; rfl))
  (refine sP (v := ?_) (a' := ?_) rfl rfl (by rfl) ?_ ?_ ?_; rotate_left 2; (· intro w'; go_simp; with_reducible rfl); (· simp only [Act.put, List.setIfInBounds_toArray, List.set_cons_zero, List.set_cons_succ, kw64, kw32]; rfl))
  intro w1 hg
  replace HB := Lib.hid (below_step HB.out hg)
  clear hg
  go_wp2_with fail
  refine (HF.out _ HB.out).mono ?_
  rintro e w2 ⟨⟨v1, rfl, A1', c1', rfl, hn1, hc1, hC1⟩, hb⟩
  replace HB := Lib.hid (below_step HB.out hb)
  have HC1 := Lib.hid hC1
  clear hb hC1 HF
  go_wp2_with fail
  refine (HR.out _ HB.out).mono ?_
  rintro e w3 ⟨rfl, hb⟩
  replace HB := Lib.hid (below_step HB.out hb)
  replace HC1 := Lib.hid (Kd.C_below HC1.out hb)
  clear hb HR
  go_wp2_with fail
  refine (Numbers_any _).mono ?_
  rintro e w5 ⟨⟨K1, k1, K2, k2, rfl, hk⟩, hb⟩
  replace HB := Lib.hid (below_step HB.out hb)
  replace HC1 := Lib.hid (Kd.C_below HC1.out hb)
  have HKK := Lib.hid hk
  clear hb hk
  unfold kV
  go_wp2_with fail
  refine (HRF.out _ _ _ _ _ HB.out HKK.out).mono ?_
  rintro e w6 ⟨⟨v2, rfl, A2', c2', rfl, hn2, hc2, hC2⟩, hb⟩
  have hb2 := below_alloc hb (.cells #[.slice A2' L.length c2', .string s, .int .i64 E] 82)
  replace HB := Lib.hid (below_step HB.out hb2)
  replace HC1 := Lib.hid (Kd.C_below HC1.out hb2)
  have HC2 := Lib.hid (Kd.C_below hC2 (below_alloc (Below.refl _ _) (.cells #[.slice A2' L.length c2', .string s, .int .i64 E] 82)))
  have hbx := heap_alloc_new w6 (.cells #[.slice A2' L.length c2', .string s, .int .i64 E] 82)
  clear hb hb2 hC2 HRF HKK
  go_wp2_with fail
  generalize w6.heap.size = bx at *
  generalize World.alloc w6 _ = w7 at *
  have HBX := Lib.hid hbx
  clear hbx
  refine (alive12_any _).mono ?_
  rintro e w8 ⟨rfl, hb⟩
  replace HB := Lib.hid (below_step HB.out hb)
  replace HC1 := Lib.hid (Kd.C_below HC1.out hb)
  replace HC2 := Lib.hid (Kd.C_below HC2.out hb)
  have hbx := (hb.block _ (Array.getElem?_eq_some_iff.1 HBX.out).1).trans HBX.out
  clear hb HBX
  have cc0 := blk_cell hbx 0
  have cc1 := blk_cell hbx 1
  have cc2 := blk_cell hbx 2
  clear hbx
  go_wp2_with fail
  have hS := Same12_any A1' L.length c1' L A2' L.length c2' L w8 HC1.out hn1 HC2.out hn2 (by omega)
  rw [decide_eq_true rfl] at hS
  refine hS.mono ?_
  rintro e w9 ⟨rfl, hb⟩
  replace HB := Lib.hid (below_step HB.out hb)
  clear hb hS cc0 cc1 cc2
  go_wp2
  go_ret
  exact ⟨rfl, HB.out⟩
theorem SkippedFills_walk (A : Option Addr) (n0 c : Nat) (xs0 : List KeptD) (r b0 : ByteArray) (f t : Nat) (W : World) (hC : Kd.C kK W A n0 xs0) (hc : n0 ≤ c) (hcc : c ≤ 9223372036854775807) (ht : t < 18446744073709551616) (hK : KeysAt W) :
    Calls Tryd.prog 13 #[.slice A n0 c, .string r, .string b0, .int .u64 (f : Int), .int .u64 (t : Int)] W fun e W' => e = .returned (.bool true) ∧ Below W.heap.size W W' := by
  cases hr : rightK (xs0.take 22)
  · exact SkippedFills_no A n0 c xs0 r b0 f t W hC hc hcc ht hK hr
  · exact SkippedFills_yes A n0 c xs0 r b0 f t W hC hc hcc ht hK hr
end Go.Proofs.YtpafocjmheemjaaDoor.Sk

import Derived.Test.YtpafocjmheemjaaDoorDa
import Derived.Test.YtpafocjmheemjaaDoorVa
import Derived.Test.YtpafocjmheemjaaDoorProg
import Derived.Deep.RegionHeld3
import Derived.Deep.QuietTactic
import Derived.BigQuiet
import Derived.StillTailTactics
import Derived.Test.YtpafocjmheemjaaDoorDq
import Derived.Test.YtpafocjmheemjaaDoorDf
import Derived.Test.YtpafocjmheemjaaDoorDe
namespace Go.Proofs.YtpafocjmheemjaaDoor.Sk
open Go.RowKit Go.Proofs.YtpafocjmheemjaaDoorW.PrintWords

structure KeptD where
  r : ByteArray
  n : Nat
  k : ByteArray
instance : Inhabited KeptD := ⟨⟨.empty, 0, .empty⟩⟩
def encK (x : KeptD) : List Value := [.string x.r, .int .u64 x.n, .string x.k]
def kK : Kd KeptD := flat 3 encK (fun _ => rfl) (fun x u hu => by simp [encK] at hu; rcases hu with rfl | rfl | rfl <;> rfl)
theorem kK_at {w : World} {A : Option Addr} {n : Nat} {xs : List KeptD} (h : Kd.C kK w A n xs) (i : Nat) (hi : i < n) :
    ∃ ad p, A = some ad ∧ xs[i]? = some p ∧ w.cell? (ad.add (i * 3)) = some (.string p.r) ∧ w.cell? ⟨(ad.add (i * 3)).block, (ad.add (i * 3)).off + 1, none⟩ = some (.int .u64 p.n) ∧ w.cell? ⟨(ad.add (i * 3)).block, (ad.add (i * 3)).off + 2, none⟩ = some (.string p.k) := by
  obtain ⟨ad, p, e, hp, hc⟩ := flat_at h i hi
  exact ⟨ad, p, e, hp, hc 0 _ rfl, by rw [← add_field _ _ 1 (by omega)]; exact hc 1 _ rfl, by rw [← add_field _ _ 2 (by omega)]; exact hc 2 _ rfl⟩

def sameN (x : KeptD) (r : ByteArray) (n : Nat) : Bool := x.r.toList == r.toList && x.n == n

theorem eqAname (d : Nat) (w : World) (x0 y0 : ByteArray) (x1 y1 : Int) :
    (Op.equalIn (d + 2) 118 (.agg #[.string x0, .int .u64 x1]) (.agg #[.string y0, .int .u64 y1])).run Tryd.prog w = .ok (x0.toList == y0.toList && (x1 == y1)) w := by
  refine eqA_of Tryd.underlying118 (by kernel_rfl) ?_
  refine eqf_cons (by rfl) (by go_simp; rfl) (by go_simp; rfl) (by go_simp) ?_
  exact eqf_last (by rfl) (by go_simp; rfl) (by go_simp; rfl) (by go_simp)
attribute [local go_sem high] eqAname

set_option maxRecDepth 100000 in
set_option maxHeartbeats 1000000 in
theorem of_any (x : KeptD) (w : World) :
    Calls Tryd.prog 83 #[.agg #[.string x.r, .int .u64 x.n, .string x.k]] w fun e w' => e = .returned (.agg #[.string x.r, .int .u64 x.n]) ∧ Below w.heap.size w w' := by
  go_enter Tryd.func83, Tryd.ntmps83
  go_wp2
  exact bodyPost_ret (v := .agg #[.string x.r, .int .u64 x.n]) (by simp [results, Tryd.results83, go_sem]) rfl ⟨rfl, below_alloc (below_alloc (Below.refl _ _) _) _⟩

set_option maxRecDepth 100000 in
set_option maxHeartbeats 1000000 in
theorem place1_any (x : KeptD) (r : ByteArray) (n : Nat) (bx : Nat) (w : World) (h0 : w.cell? ⟨bx, 0, none⟩ = some (.string r)) (h1 : w.cell? ⟨bx, 1, none⟩ = some (.int .u64 n)) :
    Calls Tryd.prog 95 #[.agg #[.string x.r, .int .u64 x.n, .string x.k], .pointer (some ⟨bx, 0, none⟩)] w fun e w' => e = .returned (.bool (sameN x r n)) ∧ Below w.heap.size w w' := by
  have hlt := World.block_lt_of_cell? w _ h0
  go_enter Tryd.func95, Tryd.ntmps95
  go_wp2
  have hB := Lib.hid (below_alloc (Below.refl w.heap.size w) (.cells #[.string x.r, .int .u64 x.n, .string x.k] 121))
  have g0 := alloc_cell h0 (.cells #[.string x.r, .int .u64 x.n, .string x.k] 121)
  have g1 := alloc_cell h1 (.cells #[.string x.r, .int .u64 x.n, .string x.k] 121)
  have c0 : (w.alloc (.cells #[.string x.r, .int .u64 x.n, .string x.k] 121)).cell? ⟨w.heap.size, 0, none⟩ = some (.string x.r) := by go_simp
  have c1 : (w.alloc (.cells #[.string x.r, .int .u64 x.n, .string x.k] 121)).cell? ⟨w.heap.size, 1, none⟩ = some (.int .u64 x.n) := by go_simp
  have c2 : (w.alloc (.cells #[.string x.r, .int .u64 x.n, .string x.k] 121)).cell? ⟨w.heap.size, 2, none⟩ = some (.string x.k) := by go_simp
  have hs : w.heap.size < (w.alloc (.cells #[.string x.r, .int .u64 x.n, .string x.k] 121)).heap.size := by simp
  have hlt2 : bx < (w.alloc (.cells #[.string x.r, .int .u64 x.n, .string x.k] 121)).heap.size := by simp; omega
  generalize w.alloc (.cells #[.string x.r, .int .u64 x.n, .string x.k] 121) = W at hB g0 g1 c0 c1 c2 hs hlt2 ⊢
  clear h0 h1 hlt
  go_region_held3 (fun w' => w'.cell? ⟨bx, 0, none⟩ = some (.string r) ∧ w'.cell? ⟨bx, 1, none⟩ = some (.int .u64 n) ∧ w'.cell? ⟨w.heap.size, 0, none⟩ = some (.string x.r) ∧ w'.cell? ⟨w.heap.size, 1, none⟩ = some (.int .u64 x.n) ∧ w'.cell? ⟨w.heap.size, 2, none⟩ = some (.string x.k))
      (first | go_keep | (exact ⟨(hb1.cell (p := ⟨bx, 0, none⟩) (by simpa using hlt2)).trans (by go_simp), (hb1.cell (p := ⟨bx, 1, none⟩) (by simpa using hlt2)).trans (by go_simp), (hb1.cell (p := ⟨w.heap.size, 0, none⟩) (by simpa using hs)).trans (by go_simp), (hb1.cell (p := ⟨w.heap.size, 1, none⟩) (by simpa using hs)).trans (by go_simp), (hb1.cell (p := ⟨w.heap.size, 2, none⟩) (by simpa using hs)).trans (by go_simp)⟩))
      ((go_at_call 83; refine (of_any x _).mono ?_; rintro e w1 ⟨rfl, hb1⟩))
  go_wp2
  go_ret
  refine ⟨ret_congr ?_, (hB.out.trans (below_drew (Below.refl _ _))).trans (hb1.mono (Nat.le_of_lt (by simpa using hs)))⟩
  show Value.bool (x.r.toList == r.toList && ((x.n : Int) == n)) = _
  rw [int_beq]; rfl

/-- the place of a name -/
def atI (xs : List KeptD) (r : ByteArray) (n : Nat) : Int := if xs.any (fun x => sameN x r n) then ((xs.findIdx fun x => sameN x r n : Nat) : Int) else -1
theorem atI_hit {xs : List KeptD} {r : ByteArray} {n k : Nat} {p : KeptD} (hp : xs[k]? = some p) (hn : ∀ q ∈ xs.take k, sameN q r n = false) (h : sameN p r n = true) : atI xs r n = k := by
  obtain ⟨hl, rfl⟩ := List.getElem?_eq_some_iff.1 hp
  unfold atI
  rw [if_pos (List.any_eq_true.2 ⟨xs[k], List.getElem_mem hl, h⟩)]
  congr 1
  rw [List.findIdx_eq hl]
  exact ⟨h, fun j hj => hn _ (List.mem_iff_getElem?.2 ⟨j, by rw [List.getElem?_take, if_pos hj, List.getElem?_eq_getElem]⟩)⟩
theorem atI_miss {xs : List KeptD} {r : ByteArray} {n : Nat} (hn : ∀ q ∈ xs, sameN q r n = false) : atI xs r n = -1 := by
  unfold atI
  rw [if_neg]
  intro h
  obtain ⟨q, hq, h1⟩ := List.any_eq_true.1 h
  rw [hn q hq] at h1; cases h1
theorem none_next {α : Type} {f : α → Bool} {xs : List α} {k : Nat} {p : α} (h : xs[k]? = some p) (hn : ∀ q ∈ xs.take k, f q = false) (hp : f p = false) : ∀ q ∈ xs.take (k + 1), f q = false := by
  intro q hq
  rw [take_next h] at hq
  rcases List.mem_append.1 hq with hq | hq
  · exact hn q hq
  · rw [List.mem_singleton.1 hq]; exact hp

set_option maxRecDepth 100000 in
set_option maxHeartbeats 1000000 in
theorem IndexFunc_any (A : Option Addr) (n c : Nat) (xs : List KeptD) (r : ByteArray) (m : Nat) (bx : Nat) (w : World) (hc : Kd.C kK w A n xs) (h0 : w.cell? ⟨bx, 0, none⟩ = some (.string r)) (h1 : w.cell? ⟨bx, 1, none⟩ = some (.int .u64 m)) :
    Calls Tryd.prog 94 #[.slice A n c, .func (.func 95) #[] #[.pointer (some ⟨bx, 0, none⟩)]] w fun e w' => e = .returned (.int .i64 (atI xs r m)) ∧ Below w.heap.size w w' := by
  have hm : n ≤ 9223372036854775807 := hc.2.1
  have HC := Lib.hid hc
  have HL := Lib.hid hc.1
  have H0 := Lib.hid h0
  have H1 := Lib.hid h1
  clear hc h0 h1
  go_enter Tryd.func94, Tryd.ntmps94
  go_wp2
  go_loopw [8] (fun i wr => ∃ k : Nat, k ≤ n ∧ i = .int .i64 k ∧ Aside0 (∀ q ∈ xs.take k, sameN q r m = false) ∧ Aside0 (Below w.heap.size w wr)) (fun i _ => (n - intOf i).toNat)
  case atStart => exact ⟨0, by omega, rfl, ⟨by simp⟩, ⟨Below.refl _ _⟩⟩
  case round =>
    obtain ⟨k, hk, rfl, HN, HB⟩ := hrel
    by_cases hlt : k < n
    · obtain ⟨ad, p, rfl, hp, c0, c1, c2⟩ := kK_at HC.out k hlt
      replace c0 := pw_cell_below HB.out c0
      replace c1 := pw_cell_below HB.out c1
      replace c2 := pw_cell_below HB.out c2
      have HP := Lib.hid hp
      clear hp
      cases hs : sameN p r m
      · have HS := Lib.hid hs
        go_wp2_with (first | (go_at_call 95; refine (place1_any p r m bx _ (pw_cell_below HB.out H0.out) (pw_cell_below HB.out H1.out)).mono ?_; rintro e w1 ⟨rfl, hb1⟩))
        exact ⟨⟨k + 1, by omega, by go_num, ⟨none_next HP.out HN.out HS.out⟩, ⟨below_step HB.out hb1⟩⟩, by simp [intOf]; omega⟩
      · have HS := Lib.hid hs
        go_wp2_with (first | (go_at_call 95; refine (place1_any p r m bx _ (pw_cell_below HB.out H0.out) (pw_cell_below HB.out H1.out)).mono ?_; rintro e w1 ⟨rfl, hb1⟩))
        go_ret
        exact ⟨ret_congr (by rw [atI_hit HP.out HN.out HS.out]; rfl), below_step HB.out hb1⟩
    · have e : k = n := by omega
      subst e
      rw [List.take_of_length_le (by rw [HL.out]; omega)] at HN
      go_wp2
      go_ret
      exact ⟨ret_congr (by rw [atI_miss HN.out]; rfl), HB.out⟩

set_option maxRecDepth 100000 in
set_option maxHeartbeats 1000000 in
theorem place_any (A : Option Addr) (n c : Nat) (xs : List KeptD) (r : ByteArray) (m : Nat) (w : World) (hc : Kd.C kK w A n xs) :
    Calls Tryd.prog 75 #[.slice A n c, .agg #[.string r, .int .u64 m]] w fun e w' => e = .returned (.int .i64 (atI xs r m)) ∧ Below w.heap.size w w' := by
  have HC := Lib.hid (Kd.C_below hc (below_alloc (Below.refl _ _) (.cells #[.string r, .int .u64 m] 118)))
  clear hc
  go_enter Tryd.func75, Tryd.ntmps75
  go_wp2_with (first | (go_at_call 94; refine (IndexFunc_any A n c xs r m w.heap.size _ HC.out (by go_simp) (by go_simp)).mono ?_; rintro e w1 ⟨rfl, hb1⟩))
  go_ret
  exact ⟨rfl, below_step (below_alloc (Below.refl _ _) _) hb1⟩

def sizedK (x : KeptD) : Bool := x.r.size == 32 && x.k.size == 32

set_option maxRecDepth 100000 in
set_option maxHeartbeats 1000000 in
theorem sized_any (x : KeptD) (w : World) :
    Calls Tryd.prog 82 #[.agg #[.string x.r, .int .u64 x.n, .string x.k]] w fun e w' => e = .returned (.bool (sizedK x)) ∧ Below w.heap.size w w' := by
  by_cases h : x.r.size = 32
  · have h1 : ((x.r.size : Int) == 32) = true := by simp; omega
    go_enter Tryd.func82, Tryd.ntmps82
    go_wp2
    go_ret
    refine ⟨ret_congr ?_, below_alloc (Below.refl _ _) _⟩
    show Value.bool ((x.k.size : Int) == 32) = _
    unfold sizedK
    rw [h, show ((x.k.size : Int) == 32) = (x.k.size == 32) from int_beq _ 32]; rfl
  · have h1 : ((x.r.size : Int) == 32) = false := by simp; omega
    go_enter Tryd.func82, Tryd.ntmps82
    go_wp2
    go_ret
    refine ⟨ret_congr ?_, below_alloc (Below.refl _ _) _⟩
    unfold sizedK
    rw [show (x.r.size == 32) = false by simpa using h]; rfl
end Go.Proofs.YtpafocjmheemjaaDoor.Sk

set_option linter.unusedSimpArgs false
namespace Go.Proofs.YtpafocjmheemjaaDoor.Sk
open Go.RowKit Go.Proofs.YtpafocjmheemjaaDoorW.PrintWords Go.Proofs.YtpafocjmheemjaaDoorW.PrintLast

def okAt (xs : List KeptD) (k : Nat) : Bool := match xs[k]? with
  | some p => sizedK p && decide (atI (xs.take k) p.r p.n < 0)
  | none => true
def rightK (xs : List KeptD) : Bool := (List.range xs.length).all (okAt xs) && decide (xs.length ≤ 20)
set_option maxRecDepth 100000 in
set_option maxHeartbeats 2000000 in
theorem Right_any (A : Option Addr) (n c : Nat) (xs : List KeptD) (w : World) (hc : Kd.C kK w A n xs) (hnc : n ≤ c) :
    Calls Tryd.prog 58 #[.slice A n c] w fun e w' => e = .returned (.bool (rightK xs)) ∧ Below w.heap.size w w' := by
  have hm : n ≤ 9223372036854775807 := hc.2.1
  have HC := Lib.hid hc
  have HL := Lib.hid hc.1
  clear hc
  go_enter Tryd.func58, Tryd.ntmps58
  go_wp2
  go_loopw [7] (fun i wr => ∃ k : Nat, k ≤ n ∧ i = .int .i64 k ∧ Aside0 (∀ j, j < k → okAt xs j = true) ∧ Aside0 (Below w.heap.size w wr)) (fun i _ => (n - intOf i).toNat)
  case atStart => exact ⟨0, by omega, rfl, ⟨by simp⟩, ⟨Below.refl _ _⟩⟩
  case round =>
    obtain ⟨k, hk, rfl, HN, HB⟩ := hrel
    by_cases hlt : k < n
    · obtain ⟨ad, p, rfl, hp, c0, c1, c2⟩ := kK_at HC.out k hlt
      replace c0 := pw_cell_below HB.out c0
      replace c1 := pw_cell_below HB.out c1
      replace c2 := pw_cell_below HB.out c2
      have hok : okAt xs k = (sizedK p && decide (atI (xs.take k) p.r p.n < 0)) := by unfold okAt; rw [hp]
      have HOK := Lib.hid hok
      have hbad : okAt xs k = false → rightK xs = false := fun h => by
        unfold rightK
        have : (List.range xs.length).all (okAt xs) = false := by
          rw [List.all_eq_false]; exact ⟨k, by rw [List.mem_range, HL.out]; exact hlt, by rw [h]; decide⟩
        rw [this]; rfl
      have HBAD := Lib.hid hbad
      have hcap : (k : Int) ≤ (c : Int) := by omega
      clear hp hok hbad
      generalize hat : atI (xs.take k) p.r p.n = at_ at HOK
      have HAT := Lib.hid hat
      clear hat
      go_wp2_with fail
      have hB := Lib.hid (below_alloc HB.out (.cells #[.string p.r, .int .u64 p.n, .string p.k] 121))
      have HB2 := Lib.hid (below_alloc (Below.refl wr.heap.size wr) (.cells #[.string p.r, .int .u64 p.n, .string p.k] 121))
      have d0 : (wr.alloc (.cells #[.string p.r, .int .u64 p.n, .string p.k] 121)).cell? ⟨wr.heap.size, 0, none⟩ = some (.string p.r) := by go_simp
      have d1 : (wr.alloc (.cells #[.string p.r, .int .u64 p.n, .string p.k] 121)).cell? ⟨wr.heap.size, 1, none⟩ = some (.int .u64 p.n) := by go_simp
      have d2 : (wr.alloc (.cells #[.string p.r, .int .u64 p.n, .string p.k] 121)).cell? ⟨wr.heap.size, 2, none⟩ = some (.string p.k) := by go_simp
      have hs : wr.heap.size < (wr.alloc (.cells #[.string p.r, .int .u64 p.n, .string p.k] 121)).heap.size := by simp
      generalize wr.alloc (.cells #[.string p.r, .int .u64 p.n, .string p.k] 121) = W at hB HB2 d0 d1 d2 hs ⊢
      clear c0 c1 c2
      cases hsz : sizedK p
      · rw [hsz] at HOK
        have HBF := Lib.hid (HBAD.out (by rw [HOK.out]; rfl))
        clear HBAD HOK
        have HSZ := Lib.hid hsz
        clear hsz
        refine start_ (n := 12) (S := (fun w' => w'.cell? ⟨wr.heap.size, 0, none⟩ = some (.string p.r) ∧ w'.cell? ⟨wr.heap.size, 1, none⟩ = some (.int .u64 p.n) ∧ w'.cell? ⟨wr.heap.size, 2, none⟩ = some (.string p.k))) (ds := []) #[false, false, false, false, false, false, false, false, false, false, false, false] (by kernel_rfl) rfl rfl ⟨by go_simp, by go_simp, by go_simp⟩ (fun hHeld => ?_)
        refine take_ (i := 0) (N := (some 12)) (v := ?_) (a' := ?_) #[true, false, false, false, false, false, false, false, false, false, false, false] rfl rfl (by kernel_rfl) (fun _ _ _ h => h) (Or.inl ⟨by rfl, ?_⟩) hHeld ?_ ?_
        rotate_left
        · rintro w' ⟨s0, s1, s2⟩; go_simp; with_reducible rfl
        rotate_left
        · simp only [Act.put, List.setIfInBounds_toArray, List.set_cons_zero, List.set_cons_succ, i64_w, i32_w]; rfl
        refine one_ (i := 1) (N := (some 13)) #[true, true, false, false, false, false, false, false, false, false, false, false] rfl rfl (by kernel_rfl) (by simp) (fun K hK => ?_)
        refine goes_ Tryd.func82 (by kernel_rfl) rfl #[.agg #[.string p.r, .int .u64 p.n, .string p.k]] (by rfl) rfl rfl (by (try simp only [List.map_toArray, List.map_cons, List.map_nil]); first | done | rfl) ?_
        refine (sized_any p _).mono ?_
        rw [HSZ.out]
        rintro e w1 ⟨rfl, hb1⟩
        refine ⟨_, rfl, hK.out _ _ ⟨(hb1.cell (p := ⟨wr.heap.size, 0, none⟩) (by simpa using hs)).trans (by go_simp), (hb1.cell (p := ⟨wr.heap.size, 1, none⟩) (by simpa using hs)).trans (by go_simp), (hb1.cell (p := ⟨wr.heap.size, 2, none⟩) (by simpa using hs)).trans (by go_simp)⟩ (fun hHeld => ?_)⟩
        clear hK K
        refine pure_ (i := 2) (N := (some 14)) (v := ?_) (a' := ?_) #[true, true, true, false, false, false, false, false, false, false, false, false] rfl rfl (by kernel_rfl) (fun _ _ _ h => h) (Or.inl ⟨by rfl, ?_⟩) ?_ ?_
        rotate_left
        · intro w'; go_simp; with_reducible rfl
        rotate_left
        · simp only [Act.put, List.setIfInBounds_toArray, List.set_cons_zero, List.set_cons_succ, i64_w, i32_w]; rfl
        refine pure_ (i := 3) (N := (some 15)) (v := ?_) (a' := ?_) #[true, true, true, true, false, false, false, false, false, false, false, false] rfl rfl (by kernel_rfl) (fun _ _ _ h => h) (Or.inl ⟨by rfl, ?_⟩) ?_ ?_
        rotate_left
        · intro w'; go_simp; with_reducible rfl
        rotate_left
        · simp only [Act.put, List.setIfInBounds_toArray, List.set_cons_zero, List.set_cons_succ, i64_w, i32_w]; rfl
        refine pure_ (i := 4) (N := (some 16)) (v := undef) #[true, true, true, true, true, false, false, false, false, false, false, false] rfl rfl (by kernel_rfl) (fun _ _ _ h => h) (Or.inr ⟨by rfl, rfl⟩) rfl ?_
        refine pure_ (i := 5) (N := (some 17)) (v := undef) #[true, true, true, true, true, true, false, false, false, false, false, false] rfl rfl (by kernel_rfl) (fun _ _ _ h => h) (Or.inr ⟨by rfl, rfl⟩) rfl ?_
        refine pure_ (i := 6) (N := (some 18)) (v := undef) #[true, true, true, true, true, true, true, false, false, false, false, false] rfl rfl (by kernel_rfl) (fun _ _ _ h => h) (Or.inr ⟨by rfl, rfl⟩) rfl ?_
        refine pure_ (i := 7) (N := (some 19)) (v := undef) #[true, true, true, true, true, true, true, true, false, false, false, false] rfl rfl (by kernel_rfl) (fun _ _ _ h => h) (Or.inr ⟨by rfl, rfl⟩) rfl ?_
        refine pure_ (i := 8) (N := (some 20)) (v := undef) #[true, true, true, true, true, true, true, true, true, false, false, false] rfl rfl (by kernel_rfl) (fun _ _ _ h => h) (Or.inr ⟨by rfl, rfl⟩) rfl ?_
        refine pure_ (i := 9) (N := (some 21)) (v := undef) #[true, true, true, true, true, true, true, true, true, true, false, false] rfl rfl (by kernel_rfl) (fun _ _ _ h => h) (Or.inr ⟨by rfl, rfl⟩) rfl ?_
        refine pure_ (i := 10) (N := (some 22)) (v := undef) #[true, true, true, true, true, true, true, true, true, true, true, false] rfl rfl (by kernel_rfl) (fun _ _ _ h => h) (Or.inr ⟨by rfl, rfl⟩) rfl ?_
        refine pure_ (i := 11) (N := (some 23)) (v := ?_) (a' := ?_) #[true, true, true, true, true, true, true, true, true, true, true, true] rfl rfl (by kernel_rfl) (fun _ _ _ h => h) (Or.inl ⟨by rfl, ?_⟩) ?_ ?_
        rotate_left
        · intro w'; go_simp; with_reducible rfl
        rotate_left
        · simp only [Act.put, List.setIfInBounds_toArray, List.set_cons_zero, List.set_cons_succ, i64_w, i32_w]; rfl
        refine done_ (by kernel_rfl) ?_
        go_wp2
        go_ret
        exact ⟨ret_congr (by rw [HBF.out]; rfl), below_step (below_drew hB.out) hb1⟩
      · rw [hsz, Bool.true_and] at HOK
        have HSZ := Lib.hid hsz
        clear hsz
        have HCk := Lib.hid (C_take HC.out k (by omega))
        go_region_held3 (fun w' => w'.cell? ⟨wr.heap.size, 0, none⟩ = some (.string p.r) ∧ w'.cell? ⟨wr.heap.size, 1, none⟩ = some (.int .u64 p.n) ∧ w'.cell? ⟨wr.heap.size, 2, none⟩ = some (.string p.k))
          (first | go_keep | exact keep3 hb3 (by assumption) | exact keep3 hb2 (by assumption) | exact keep3 hb1 (by assumption))
          (first | (go_at_call 82; refine (sized_any p _).mono ?_; rw [HSZ.out]; rintro e w1 ⟨rfl, hb1⟩) | (go_at_call 83; refine (of_any p _).mono ?_; rintro e w2 ⟨rfl, hb2⟩) | (go_at_call 75; refine (place_any (some ad) k c _ p.r p.n _ (Kd.C_below HCk.out (below_step (below_step (below_drew hB.out) hb1) hb2))).mono ?_; rw [HAT.out]; rintro e w3 ⟨rfl, hb3⟩))
        by_cases hneg : at_ < 0
        · have HO := Lib.hid (show okAt xs k = true by rw [HOK.out]; exact decide_eq_true hneg)
          go_wp2
          refine ⟨⟨k + 1, by omega, by go_num, ⟨fun j hj => ?_⟩, ⟨below_step (below_step (below_step (below_drew hB.out) hb1) hb2) hb3⟩⟩, by simp [intOf]; omega⟩
          by_cases e : j = k
          · rw [e]; exact HO.out
          · exact HN.out j (by omega)
        · have HBF := Lib.hid (HBAD.out (by rw [HOK.out]; exact decide_eq_false hneg))
          go_wp2
          go_ret
          exact ⟨ret_congr (by rw [HBF.out]; rfl), below_step (below_step (below_step (below_drew hB.out) hb1) hb2) hb3⟩
    · have e : k = n := by omega
      subst e
      have HV : Hid (rightK xs = decide ((k : Int) ≤ 20)) := by
        show _ = _
        unfold rightK
        rw [show (List.range xs.length).all (okAt xs) = true from List.all_eq_true.2 fun j hj => HN.out j (by have := List.mem_range.1 hj; rw [HL.out] at this; exact this), HL.out, Bool.true_and, decide_eq_decide]
        omega
      go_wp2
      go_ret
      exact ⟨ret_congr (by rw [HV.out]; rfl), HB.out⟩
end Go.Proofs.YtpafocjmheemjaaDoor.Sk

set_option linter.unusedSimpArgs false
namespace Go.Proofs.YtpafocjmheemjaaDoor.Sk
open Go.RowKit Go.Proofs.YtpafocjmheemjaaDoorW.PrintWords Go.Proofs.YtpafocjmheemjaaDoorW.PrintLast
theorem info121 : (Tryd.prog.info? 121).map (fun i => (i.zero, i.size, i.bytes)) = some (some (.agg #[.string ⟨#[]⟩, .int .u64 0, .string ⟨#[]⟩]), 3, 40) := by kernel_rfl

def putK (xs : List KeptD) (x : KeptD) : List KeptD := (if xs.length = 20 then xs.drop 1 else xs) ++ [x]

set_option maxRecDepth 100000 in
set_option maxHeartbeats 1000000 in
theorem put_any (A : Option Addr) (n c : Nat) (xs : List KeptD) (x : KeptD) (w : World) (hc : Kd.C kK w A n xs) (hnc : n ≤ c) (hcc : c ≤ 9223372036854775807) (hn20 : n ≤ 1000) :
    Calls Tryd.prog 76 #[.slice A n c, .agg #[.string x.r, .int .u64 x.n, .string x.k]] w fun e w' => (∃ v, e = .returned v ∧ Out kK w' v (putK xs x)) ∧ Below w.heap.size w w' := by
  have HC := Lib.hid hc
  have HL := Lib.hid hc.1
  by_cases h20 : n = 20
  · subst h20
    obtain ⟨ad, rfl, _⟩ := hc.2.2 (by omega)
    clear hc
    have hD := C_drop HC.out 1 (by omega)
    rw [show ad.add (1 * kK.sz) = ⟨ad.block, ad.off + 3, none⟩ from rfl] at hD
    have HD := Lib.hid hD
    clear hD
    have hc1 : (19 : Int) ≤ ((c - 1 : Nat) : Int) := by omega
    go_enter Tryd.func76, Tryd.ntmps76
    go_wp2_with fail
    have hB := Lib.hid (below_alloc (Below.refl w.heap.size w) (.cells #[.string x.r, .int .u64 x.n, .string x.k] 121))
    have d0 : (w.alloc (.cells #[.string x.r, .int .u64 x.n, .string x.k] 121)).cell? ⟨w.heap.size, 0, none⟩ = some (.string x.r) := by go_simp
    have d1 : (w.alloc (.cells #[.string x.r, .int .u64 x.n, .string x.k] 121)).cell? ⟨w.heap.size, 1, none⟩ = some (.int .u64 x.n) := by go_simp
    have d2 : (w.alloc (.cells #[.string x.r, .int .u64 x.n, .string x.k] 121)).cell? ⟨w.heap.size, 2, none⟩ = some (.string x.k) := by go_simp
    generalize w.alloc (.cells #[.string x.r, .int .u64 x.n, .string x.k] 121) = W at hB d0 d1 d2 ⊢
    refine start_ (n := 10) (S := (fun w' => w'.cell? ⟨w.heap.size, 0, none⟩ = some (.string x.r) ∧ w'.cell? ⟨w.heap.size, 1, none⟩ = some (.int .u64 x.n) ∧ w'.cell? ⟨w.heap.size, 2, none⟩ = some (.string x.k))) (ds := []) #[false, false, false, false, false, false, false, false, false, false] (by kernel_rfl) rfl rfl ⟨by go_simp, by go_simp, by go_simp⟩ (fun hHeld => ?_)
    refine pure_ (i := 0) (N := (some 10)) (v := ?_) (a' := ?_) #[true, false, false, false, false, false, false, false, false, false] rfl rfl (by kernel_rfl) (fun _ _ _ h => h) (Or.inl ⟨by rfl, ?_⟩) ?_ ?_
    rotate_left
    · intro w'; go_simp; with_reducible rfl
    rotate_left
    · simp only [Act.put, List.setIfInBounds_toArray, List.set_cons_zero, List.set_cons_succ, i64_w, i32_w]; rfl
    refine pure_ (i := 1) (N := (some 11)) (v := ?_) (a' := ?_) #[true, true, false, false, false, false, false, false, false, false] rfl rfl (by kernel_rfl) (fun _ _ _ h => h) (Or.inl ⟨by rfl, ?_⟩) ?_ ?_
    rotate_left
    · intro w'; go_simp; with_reducible rfl
    rotate_left
    · simp only [Act.put, List.setIfInBounds_toArray, List.set_cons_zero, List.set_cons_succ, i64_w, i32_w]; rfl
    refine pure_ (i := 2) (N := (some 12)) (v := ?_) (a' := ?_) #[true, true, true, false, false, false, false, false, false, false] rfl rfl (by kernel_rfl) (fun _ _ _ h => h) (Or.inl ⟨by rfl, ?_⟩) ?_ ?_
    rotate_left
    · intro w'; go_simp; with_reducible rfl
    rotate_left
    · simp only [Act.put, List.setIfInBounds_toArray, List.set_cons_zero, List.set_cons_succ, i64_w, i32_w]; rfl
    refine pure_ (i := 3) (N := (some 13)) (v := ?_) (a' := ?_) #[true, true, true, true, false, false, false, false, false, false] rfl rfl (by kernel_rfl) (fun _ _ _ h => h) (Or.inl ⟨by rfl, ?_⟩) ?_ ?_
    rotate_left
    · intro w'; go_simp; with_reducible rfl
    rotate_left
    · simp only [Act.put, List.setIfInBounds_toArray, List.set_cons_zero, List.set_cons_succ, i64_w, i32_w]; rfl
    refine pure_ (i := 4) (N := (some 14)) (v := ?_) (a' := ?_) #[true, true, true, true, true, false, false, false, false, false] rfl rfl (by kernel_rfl) (fun _ _ _ h => h) (Or.inl ⟨by rfl, ?_⟩) ?_ ?_
    rotate_left
    · intro w'; go_simp; with_reducible rfl
    rotate_left
    · simp only [Act.put, List.setIfInBounds_toArray, List.set_cons_zero, List.set_cons_succ, i64_w, i32_w]; rfl
    refine pure_ (i := 5) (N := (some 15)) (v := ?_) (a' := ?_) #[true, true, true, true, true, true, false, false, false, false] rfl rfl (by kernel_rfl) (fun _ _ _ h => h) (Or.inl ⟨by rfl, ?_⟩) ?_ ?_
    rotate_left
    · intro w'; go_simp; with_reducible rfl
    rotate_left
    · simp only [Act.put, List.setIfInBounds_toArray, List.set_cons_zero, List.set_cons_succ, i64_w, i32_w]; rfl
    refine take_ (i := 6) (N := (some 16)) (v := ?_) (a' := ?_) #[true, true, true, true, true, true, true, false, false, false] rfl rfl (by kernel_rfl) (fun _ _ _ h => h) (Or.inl ⟨by rfl, ?_⟩) hHeld ?_ ?_
    rotate_left
    · rintro w' ⟨s0, s1, s2⟩; go_simp; with_reducible rfl
    rotate_left
    · simp only [Act.put, List.setIfInBounds_toArray, List.set_cons_zero, List.set_cons_succ, i64_w, i32_w]; rfl
    refine one_ (i := 7) (N := (some 17)) #[true, true, true, true, true, true, true, true, false, false] rfl rfl (by kernel_rfl) (by simp) (fun K hK => ?_)
    refine value_ (by rfl) rfl (by go_simp; exact ⟨rfl, rfl⟩) ?_
    refine hK.out _ _ (keep3 (below_alloc (Below.refl _ _) _) hHeld) (fun hHeld => ?_)
    clear hK K
    refine one_ (i := 8) (N := (some 18)) #[true, true, true, true, true, true, true, true, true, false] rfl rfl (by kernel_rfl) (by simp) (fun K hK => ?_)
    refine app_full_step kK (.tmp 15) (.tmp 17) 76 121 (.agg #[.string ⟨#[]⟩, .int .u64 0, .string ⟨#[]⟩]) 40 (by rfl) rfl rfl Tryd.underlying76 info121 rfl (by decide) (by decide) (some ⟨ad.block, ad.off + 3, none⟩) 19 19 (xs.drop 1) rfl (Kd.C_below (HD.out) (below_drew (below_alloc hB.out _))) (by simp) (some ⟨W.heap.size, 0, none⟩) 1 1 [x] rfl (C_box (d := kK) (W := W.drew) (cs := encK x) 121 rfl) (by omega) (by omega) (by omega) ?_
    intro v1 w1 hO hb
    refine hK.out _ _ (keep3 hb hHeld) (fun hHeld => ?_)
    clear hK K
    refine pure_ (i := 9) (N := (some 4)) (v := ?_) (a' := ?_) #[true, true, true, true, true, true, true, true, true, true] rfl rfl (by kernel_rfl) (fun _ _ _ h => h) (Or.inl ⟨by rfl, ?_⟩) ?_ ?_
    rotate_left
    · intro w'; go_simp; with_reducible rfl
    rotate_left
    · simp only [Act.put, List.setIfInBounds_toArray, List.set_cons_zero, List.set_cons_succ, i64_w, i32_w]; rfl
    refine done_ (by kernel_rfl) ?_
    go_wp2
    go_ret
    refine ⟨⟨v1, rfl, ?_⟩, below_step (below_drew (below_alloc hB.out _)) hb⟩
    unfold putK; rw [if_pos HL.out]; exact hO
  · have h1 : ((n : Int) == 20) = false := by simp; omega
    have hA : A = none → n = 0 ∧ n = 0 := by
      intro h; subst h
      rcases Nat.eq_zero_or_pos n with h | h
      · exact ⟨h, h⟩
      · obtain ⟨_, h2, _⟩ := hc.2.2 h; cases h2
    have HA := Lib.hid hA
    clear hA hc
    have hi0 : (0 : Int) ≤ (n : Int) := Int.natCast_nonneg _
    have hi1 : (n : Int) ≤ (c : Int) := by omega
    go_enter Tryd.func76, Tryd.ntmps76
    go_wp2_with fail
    have hB := Lib.hid (below_alloc (Below.refl w.heap.size w) (.cells #[.string x.r, .int .u64 x.n, .string x.k] 121))
    have d0 : (w.alloc (.cells #[.string x.r, .int .u64 x.n, .string x.k] 121)).cell? ⟨w.heap.size, 0, none⟩ = some (.string x.r) := by go_simp
    have d1 : (w.alloc (.cells #[.string x.r, .int .u64 x.n, .string x.k] 121)).cell? ⟨w.heap.size, 1, none⟩ = some (.int .u64 x.n) := by go_simp
    have d2 : (w.alloc (.cells #[.string x.r, .int .u64 x.n, .string x.k] 121)).cell? ⟨w.heap.size, 2, none⟩ = some (.string x.k) := by go_simp
    generalize w.alloc (.cells #[.string x.r, .int .u64 x.n, .string x.k] 121) = W at hB d0 d1 d2 ⊢
    refine start_ (n := 10) (S := (fun w' => w'.cell? ⟨w.heap.size, 0, none⟩ = some (.string x.r) ∧ w'.cell? ⟨w.heap.size, 1, none⟩ = some (.int .u64 x.n) ∧ w'.cell? ⟨w.heap.size, 2, none⟩ = some (.string x.k))) (ds := []) #[false, false, false, false, false, false, false, false, false, false] (by kernel_rfl) rfl rfl ⟨by go_simp, by go_simp, by go_simp⟩ (fun hHeld => ?_)
    refine pure_ (i := 0) (N := (some 10)) (v := ?_) (a' := ?_) #[true, false, false, false, false, false, false, false, false, false] rfl rfl (by kernel_rfl) (fun _ _ _ h => h) (Or.inl ⟨by rfl, ?_⟩) ?_ ?_
    rotate_left
    · intro w'; go_simp; with_reducible rfl
    rotate_left
    · simp only [Act.put, List.setIfInBounds_toArray, List.set_cons_zero, List.set_cons_succ, i64_w, i32_w]; rfl
    refine pure_ (i := 1) (N := (some 11)) (v := ?_) (a' := ?_) #[true, true, false, false, false, false, false, false, false, false] rfl rfl (by kernel_rfl) (fun _ _ _ h => h) (Or.inl ⟨by rfl, ?_⟩) ?_ ?_
    rotate_left
    · intro w'; go_simp; with_reducible rfl
    rotate_left
    · simp only [Act.put, List.setIfInBounds_toArray, List.set_cons_zero, List.set_cons_succ, i64_w, i32_w]; rfl
    refine pure_ (i := 2) (N := (some 12)) (v := ?_) (a' := ?_) #[true, true, true, false, false, false, false, false, false, false] rfl rfl (by kernel_rfl) (fun _ _ _ h => h) (Or.inl ⟨by rfl, ?_⟩) ?_ ?_
    rotate_left
    · intro w'; go_simp; with_reducible rfl
    rotate_left
    · simp only [Act.put, List.setIfInBounds_toArray, List.set_cons_zero, List.set_cons_succ, i64_w, i32_w]; rfl
    refine pure_ (i := 3) (N := (some 13)) (v := ?_) (a' := ?_) #[true, true, true, true, false, false, false, false, false, false] rfl rfl (by kernel_rfl) (fun _ _ _ h => h) (Or.inl ⟨by rfl, ?_⟩) ?_ ?_
    rotate_left
    · intro w'; go_simp; with_reducible rfl
    rotate_left
    · simp only [Act.put, List.setIfInBounds_toArray, List.set_cons_zero, List.set_cons_succ, i64_w, i32_w]; rfl
    refine pure_ (i := 4) (N := (some 14)) (v := ?_) (a' := ?_) #[true, true, true, true, true, false, false, false, false, false] rfl rfl (by kernel_rfl) (fun _ _ _ h => h) (Or.inl ⟨by rfl, ?_⟩) ?_ ?_
    rotate_left
    · intro w'; go_simp; with_reducible rfl
    rotate_left
    · simp only [Act.put, List.setIfInBounds_toArray, List.set_cons_zero, List.set_cons_succ, i64_w, i32_w]; rfl
    refine pure_ (i := 5) (N := (some 15)) (v := ?_) (a' := ?_) #[true, true, true, true, true, true, false, false, false, false] rfl rfl (by kernel_rfl) (fun _ _ _ h => h) (Or.inl ⟨by rfl, ?_⟩) ?_ ?_
    rotate_left
    · intro w'; go_simp; with_reducible rfl
    rotate_left
    · simp only [Act.put, List.setIfInBounds_toArray, List.set_cons_zero, List.set_cons_succ, i64_w, i32_w]; rfl
    refine take_ (i := 6) (N := (some 16)) (v := ?_) (a' := ?_) #[true, true, true, true, true, true, true, false, false, false] rfl rfl (by kernel_rfl) (fun _ _ _ h => h) (Or.inl ⟨by rfl, ?_⟩) hHeld ?_ ?_
    rotate_left
    · rintro w' ⟨s0, s1, s2⟩; go_simp; with_reducible rfl
    rotate_left
    · simp only [Act.put, List.setIfInBounds_toArray, List.set_cons_zero, List.set_cons_succ, i64_w, i32_w]; rfl
    refine one_ (i := 7) (N := (some 17)) #[true, true, true, true, true, true, true, true, false, false] rfl rfl (by kernel_rfl) (by simp) (fun K hK => ?_)
    refine value_ (by rfl) rfl (by go_simp; exact ⟨rfl, rfl⟩) ?_
    refine hK.out _ _ (keep3 (below_alloc (Below.refl _ _) _) hHeld) (fun hHeld => ?_)
    clear hK K
    refine one_ (i := 8) (N := (some 18)) #[true, true, true, true, true, true, true, true, true, false] rfl rfl (by kernel_rfl) (by simp) (fun K hK => ?_)
    refine app_full_step kK (.tmp 15) (.tmp 17) 76 121 (.agg #[.string ⟨#[]⟩, .int .u64 0, .string ⟨#[]⟩]) 40 (by rfl) rfl rfl Tryd.underlying76 info121 rfl (by decide) (by decide) (A) n n (xs) rfl (Kd.C_below (HC.out) (below_drew (below_alloc hB.out _))) (HA.out) (some ⟨W.heap.size, 0, none⟩) 1 1 [x] rfl (C_box (d := kK) (W := W.drew) (cs := encK x) 121 rfl) (by omega) (by omega) (by omega) ?_
    intro v1 w1 hO hb
    refine hK.out _ _ (keep3 hb hHeld) (fun hHeld => ?_)
    clear hK K
    refine pure_ (i := 9) (N := (some 4)) (v := ?_) (a' := ?_) #[true, true, true, true, true, true, true, true, true, true] rfl rfl (by kernel_rfl) (fun _ _ _ h => h) (Or.inl ⟨by rfl, ?_⟩) ?_ ?_
    rotate_left
    · intro w'; go_simp; with_reducible rfl
    rotate_left
    · simp only [Act.put, List.setIfInBounds_toArray, List.set_cons_zero, List.set_cons_succ, i64_w, i32_w]; rfl
    refine done_ (by kernel_rfl) ?_
    go_wp2
    go_ret
    refine ⟨⟨v1, rfl, ?_⟩, below_step (below_drew (below_alloc hB.out _)) hb⟩
    unfold putK; rw [if_neg (by rw [HL.out]; exact h20)]; exact hO

set_option maxRecDepth 100000 in
set_option maxHeartbeats 1000000 in
theorem few12_any (A : Option Addr) (n c : Nat) (w : World) (h : n ≤ c) :
    Calls Tryd.prog 52 #[.slice A n c] w fun e w' => e = .returned (.slice A (min n 22) c) ∧ w = w' := by
  go_enter Tryd.func52, Tryd.ntmps52
  go_wp2
  all_goals
    go_ret
    exact ⟨ret_congr (congrArg (fun k => Value.slice A k c) (by omega)), rfl⟩

/-- the outcome of Put: the table or none, and the error -/
def putE (xs : List KeptD) (x : KeptD) : Int := if rightK xs = false then 1 else if sizedK x = false then 2 else if 0 ≤ atI xs x.r x.n then 7 else 0
def PutRes (xs : List KeptD) (x : KeptD) (e : Ending) (w : World) : Prop := ∃ v, e = .returned (.tuple #[v, .int .i64 (putE xs x)]) ∧ Out kK w v (if putE xs x = 0 then putK xs x else [])
theorem put_fin {xs : List KeptD} {x : KeptD} {E : Int} {v : Value} {w : World} {ys : List KeptD} (h1 : putE xs x = E) (h2 : (if E = 0 then putK xs x else []) = ys) (h3 : Out kK w v ys) : PutRes xs x (.returned (.tuple #[v, .int .i64 E])) w :=
  ⟨v, by rw [h1], by rw [h1, h2]; exact h3⟩
set_option maxRecDepth 100000 in
set_option maxHeartbeats 1000000 in
theorem Put_any (A : Option Addr) (n c : Nat) (xs : List KeptD) (x : KeptD) (w : World) (hc : Kd.C kK w A n xs) (hnc : n ≤ c) (hcc : c ≤ 9223372036854775807) (hn20 : n ≤ 1000) :
    Calls Tryd.prog 79 #[.slice A n c, .agg #[.string x.r, .int .u64 x.n, .string x.k]] w fun e w' => PutRes xs x e w' ∧ Below w.heap.size w w' := by
  have HC := Lib.hid hc
  clear hc
  have HB := Lib.hid (below_alloc (Below.refl w.heap.size w) (.cells #[.string x.r, .int .u64 x.n, .string x.k] 121))
  cases hr : rightK xs
  · have HE := Lib.hid (show putE xs x = 1 by unfold putE; rw [if_pos hr])
    have HR := Lib.hid hr
    clear hr
    go_enter Tryd.func79, Tryd.ntmps79
    go_wp2_with (first | (go_at_call 58; refine (Right_any A n c xs _ (Kd.C_below HC.out HB.out) hnc).mono ?_; rw [HR.out]; rintro e w1 ⟨rfl, hb1⟩))
    go_ret2
    exact ⟨put_fin HE.out rfl (Out_nil _ _), below_step HB.out hb1⟩
  · have HR := Lib.hid hr
    cases hs : sizedK x
    · have HE := Lib.hid (show putE xs x = 2 by unfold putE; rw [if_neg (by rw [hr]; decide), if_pos hs])
      have HS := Lib.hid hs
      clear hr hs
      go_enter Tryd.func79, Tryd.ntmps79
      go_wp2_with (first | (go_at_call 58; refine (Right_any A n c xs _ (Kd.C_below HC.out HB.out) hnc).mono ?_; rw [HR.out]; rintro e w1 ⟨rfl, hb1⟩; have hc1 := fun (b o) (h : b < w.heap.size + 1) => hb1.cell (p := ⟨b, o, none⟩) (by simpa using h)) | (go_at_call 82; refine (sized_any x _).mono ?_; rw [HS.out]; rintro e w2 ⟨rfl, hb2⟩))
      go_ret2
      exact ⟨put_fin HE.out rfl (Out_nil _ _), below_step (below_step HB.out hb1) hb2⟩
    · have HS := Lib.hid hs
      have HE := Lib.hid (show putE xs x = if 0 ≤ atI xs x.r x.n then 7 else 0 by unfold putE; rw [if_neg (by rw [hr]; decide), if_neg (by rw [hs]; decide)])
      clear hr hs
      generalize hat : atI xs x.r x.n = q at HE
      have HAT := Lib.hid hat
      clear hat
      by_cases hq : 0 ≤ q
      · replace HE := Lib.hid (HE.out.trans (if_pos hq))
        go_enter Tryd.func79, Tryd.ntmps79
        go_wp2_with (first | (go_at_call 58; refine (Right_any A n c xs _ (Kd.C_below HC.out HB.out) hnc).mono ?_; rw [HR.out]; rintro e w1 ⟨rfl, hb1⟩; have hc1 := fun (b o) (h : b < w.heap.size + 1) => hb1.cell (p := ⟨b, o, none⟩) (by simpa using h)) | (go_at_call 82; refine (sized_any x _).mono ?_; rw [HS.out]; rintro e w2 ⟨rfl, hb2⟩; have hc2 := fun (b o) (h : b < w1.heap.size) => hb2.cell (p := ⟨b, o, none⟩) (by simpa using h); have hz1 : w.heap.size < w1.heap.size := by have := hb1.size; simp at this; omega) | (go_at_call 83; refine (of_any x _).mono ?_; rintro e w3 ⟨rfl, hb3⟩; have hb := Lib.hid (below_step (below_step (below_step HB.out hb1) hb2) hb3)) | (go_at_call 75; refine (place_any A n c xs x.r x.n _ (Kd.C_below HC.out hb.out)).mono ?_; rw [HAT.out]; rintro e w4 ⟨rfl, hb4⟩))
        go_ret2
        exact ⟨put_fin HE.out rfl (Out_nil _ _), below_step hb.out hb4⟩
      · replace HE := Lib.hid (HE.out.trans (if_neg hq))
        go_enter Tryd.func79, Tryd.ntmps79
        go_wp2_with (first | (go_at_call 58; refine (Right_any A n c xs _ (Kd.C_below HC.out HB.out) hnc).mono ?_; rw [HR.out]; rintro e w1 ⟨rfl, hb1⟩; have hc1 := fun (b o) (h : b < w.heap.size + 1) => hb1.cell (p := ⟨b, o, none⟩) (by simpa using h)) | (go_at_call 82; refine (sized_any x _).mono ?_; rw [HS.out]; rintro e w2 ⟨rfl, hb2⟩; have hc2 := fun (b o) (h : b < w1.heap.size) => hb2.cell (p := ⟨b, o, none⟩) (by simpa using h); have hz1 : w.heap.size < w1.heap.size := by have := hb1.size; simp at this; omega) | (go_at_call 83; refine (of_any x _).mono ?_; rintro e w3 ⟨rfl, hb3⟩; have hc3 := fun (b o) (h : b < w2.heap.size) => hb3.cell (p := ⟨b, o, none⟩) (by simpa using h); have hz2 : w.heap.size < w2.heap.size := (by have := hb2.size; omega); have hb := Lib.hid (below_step (below_step (below_step HB.out hb1) hb2) hb3)) | (go_at_call 75; refine (place_any A n c xs x.r x.n _ (Kd.C_below HC.out hb.out)).mono ?_; rw [HAT.out]; rintro e w4 ⟨rfl, hb4⟩; have hc4 := fun (b o) (h : b < w3.heap.size) => hb4.cell (p := ⟨b, o, none⟩) (by simpa using h); have hz3 : w.heap.size < w3.heap.size := by have := hb3.size; omega) | (go_at_call 76; refine (put_any A n c xs x _ (Kd.C_below HC.out (below_step hb.out hb4)) hnc hcc hn20).mono ?_; rintro e w5 ⟨⟨v, rfl, hO⟩, hb5⟩))
        go_ret2
        exact ⟨put_fin HE.out rfl hO, below_step (below_step hb.out hb4) hb5⟩
end Go.Proofs.YtpafocjmheemjaaDoor.Sk

set_option linter.unusedSimpArgs false
namespace Go.Proofs.YtpafocjmheemjaaDoor.Sk
open Go.RowKit Go.Proofs.YtpafocjmheemjaaDoorW.PrintWords Go.Proofs.YtpafocjmheemjaaDoorW.PrintLast

def takeE (xs : List KeptD) (r : ByteArray) (n : Nat) : Int := if rightK xs = false then 1 else if atI xs r n < 0 then 5 else 0
def takeS (xs : List KeptD) (r : ByteArray) (n : Nat) : ByteArray := if takeE xs r n = 0 then (xs.getD (atI xs r n).toNat default).k else ⟨#[]⟩
def takeL (xs : List KeptD) (r : ByteArray) (n : Nat) : List KeptD := if takeE xs r n = 0 then xs.take (atI xs r n).toNat ++ xs.drop ((atI xs r n).toNat + 1) else []
def TakeRes (xs : List KeptD) (r : ByteArray) (n : Nat) (e : Ending) (w : World) : Prop := ∃ v, e = .returned (.tuple #[.string (takeS xs r n), v, .int .i64 (takeE xs r n)]) ∧ Out kK w v (takeL xs r n)
theorem take_fin {xs : List KeptD} {r : ByteArray} {n : Nat} {E : Int} {s : ByteArray} {v : Value} {w : World} {ys : List KeptD} (h1 : takeE xs r n = E) (h2 : takeS xs r n = s) (h3 : takeL xs r n = ys) (h4 : Out kK w v ys) : TakeRes xs r n (.returned (.tuple #[.string s, v, .int .i64 E])) w :=
  ⟨v, by rw [h1, h2], by rw [h3]; exact h4⟩
theorem atI_lt (xs : List KeptD) (r : ByteArray) (n : Nat) (h : 0 ≤ atI xs r n) : ∃ i : Nat, atI xs r n = i ∧ i < xs.length := by
  unfold atI at h ⊢
  split
  · rename_i hs
    obtain ⟨q, hq, h1⟩ := List.any_eq_true.1 hs
    exact ⟨_, rfl, List.findIdx_lt_length_of_exists ⟨q, hq, h1⟩⟩
  · rename_i hs
    rw [if_neg hs] at h; omega

set_option maxRecDepth 100000 in
set_option maxHeartbeats 2000000 in
theorem Take_any (A : Option Addr) (n c : Nat) (xs : List KeptD) (r : ByteArray) (m : Nat) (w : World) (hc : Kd.C kK w A n xs) (hnc : n ≤ c) (_hcc : c ≤ 9223372036854775807) (hn20 : n ≤ 1000) :
    Calls Tryd.prog 80 #[.slice A n c, .string r, .int .u64 m] w fun e w' => TakeRes xs r m e w' ∧ Below w.heap.size w w' := by
  have HC := Lib.hid hc
  have HL := Lib.hid hc.1
  clear hc
  cases hr : rightK xs
  · have HE := Lib.hid (show takeE xs r m = 1 by unfold takeE; rw [if_pos hr])
    have HR := Lib.hid hr
    clear hr
    go_enter Tryd.func80, Tryd.ntmps80
    go_wp2_with (first | (go_at_call 58; refine (Right_any A n c xs _ HC.out hnc).mono ?_; rw [HR.out]; rintro e w1 ⟨rfl, hb1⟩))
    go_ret3
    exact ⟨take_fin HE.out (by unfold takeS; rw [HE.out]; rfl) (by unfold takeL; rw [HE.out]; rfl) (Out_nil _ _), hb1⟩
  · have HR := Lib.hid hr
    have HE := Lib.hid (show takeE xs r m = if atI xs r m < 0 then 5 else 0 by unfold takeE; rw [if_neg (by rw [hr]; decide)])
    clear hr
    by_cases hq : atI xs r m < 0
    · replace HE := Lib.hid (HE.out.trans (if_pos hq))
      generalize hat : atI xs r m = q at hq
      have HAT := Lib.hid hat
      clear hat
      go_enter Tryd.func80, Tryd.ntmps80
      go_wp2_with (first | (go_at_call 58; refine (Right_any A n c xs _ HC.out hnc).mono ?_; rw [HR.out]; rintro e w1 ⟨rfl, hb1⟩) | (go_at_call 75; refine (place_any A n c xs r m _ (Kd.C_below HC.out hb1)).mono ?_; rw [HAT.out]; rintro e w2 ⟨rfl, hb2⟩))
      go_ret3
      exact ⟨take_fin HE.out (by unfold takeS; rw [HE.out]; rfl) (by unfold takeL; rw [HE.out]; rfl) (Out_nil _ _), below_step hb1 hb2⟩
    · replace HE := Lib.hid (HE.out.trans (if_neg hq))
      obtain ⟨i, hi, hil⟩ := atI_lt xs r m (by omega)
      have HAT := Lib.hid hi
      have hin : i < n := by rw [HL.out] at hil; exact hil
      obtain ⟨ad, p, rfl, hp, _, _, c2⟩ := kK_at HC.out i hin
      have HS : Hid (takeS xs r m = p.k) := by
        show _ = _
        unfold takeS; rw [HE.out, if_pos rfl, HAT.out, Int.toNat_natCast, List.getD_eq_getElem?_getD, hp]; rfl
      have HLs : Hid (takeL xs r m = xs.take i ++ xs.drop (i + 1)) := by
        show _ = _
        unfold takeL; rw [HE.out, if_pos rfl, HAT.out, Int.toNat_natCast]
      have HT0 := Lib.hid (C_take HC.out i (by omega))
      have HD0 := Lib.hid (C_drop HC.out (i + 1) (by omega))
      have HP := Lib.hid hp
      have hmm : n ≤ 9223372036854775807 := HC.out.2.1
      have hw1 : IntKind.i64.wrap ((i : Int) + 1) = (i : Int) + 1 := IntWalk.i64_in _ (by omega)
      have hw2 : (0 : Int) ≤ (i : Int) + 1 := by omega
      have hw3 : (i : Int) + 1 ≤ (n : Int) := by omega
      have hw4 : (i : Int) ≤ (c : Int) := by omega
      have hw5 : (i : Int) < (n : Int) := by omega
      have hw6 : (0 : Int) ≤ (i : Int) := by omega
      have hw7 : ((i : Int) + 1).toNat = i + 1 := by omega
      have hw8 : i ≤ n := by omega
      have hw9 : i + 1 ≤ n := by omega
      have hw10 : i ≤ c := by omega
      have hw11 : i + 1 ≤ c := by omega
      clear hi hil hp hq
      go_enter Tryd.func80, Tryd.ntmps80
      go_wp2_with (first | (go_at_call 58; refine (Right_any (some ad) n c xs _ HC.out hnc).mono ?_; rw [HR.out]; rintro e w1 ⟨rfl, hb1⟩) | (go_at_call 75; refine (place_any (some ad) n c xs r m _ (Kd.C_below HC.out hb1)).mono ?_; rw [HAT.out]; rintro e w2 ⟨rfl, hb2⟩))
      have hb := Lib.hid (below_step hb1 hb2)
      replace c2 := pw_cell_below hb.out c2
      clear hb1 hb2
      by_cases hlast : i + 1 = n
      · have hz : n - (i + 1) = 0 := by omega
        have HLT := Lib.hid (show xs.take i ++ xs.drop (i + 1) = xs.take i by rw [List.drop_eq_nil_of_le (by rw [HL.out]; omega), List.append_nil])
        by_cases hcap : c = i + 1
        all_goals
          refine start_ (n := 17) (S := (fun w' => w'.cell? ⟨(ad.add (i * 3)).block, (ad.add (i * 3)).off + 2, none⟩ = some (.string p.k))) (ds := []) #[false, false, false, false, false, false, false, false, false, false, false, false, false, false, false, false, false] (by kernel_rfl) rfl rfl (by go_simp) (fun hHeld => ?_)
          refine pure_ (i := 0) (N := (some 20)) (v := ?_) (a' := ?_) #[true, false, false, false, false, false, false, false, false, false, false, false, false, false, false, false, false] rfl rfl (by kernel_rfl) (fun _ _ _ h => h) (Or.inl ⟨by rfl, ?_⟩) ?_ ?_
          rotate_left
          · intro w'; go_simp; with_reducible rfl
          rotate_left
          · simp only [Act.put, List.setIfInBounds_toArray, List.set_cons_zero, List.set_cons_succ, i64_w, i32_w]; rfl
          refine pure_ (i := 1) (N := (some 21)) (v := ?_) (a' := ?_) #[true, true, false, false, false, false, false, false, false, false, false, false, false, false, false, false, false] rfl rfl (by kernel_rfl) (fun _ _ _ h => h) (Or.inl ⟨by rfl, ?_⟩) ?_ ?_
          rotate_left
          · intro w'; go_simp; with_reducible rfl
          rotate_left
          · simp only [Act.put, List.setIfInBounds_toArray, List.set_cons_zero, List.set_cons_succ, i64_w, i32_w]; rfl
          refine pure_ (i := 2) (N := (some 22)) (v := ?_) (a' := ?_) #[true, true, true, false, false, false, false, false, false, false, false, false, false, false, false, false, false] rfl rfl (by kernel_rfl) (fun _ _ _ h => h) (Or.inl ⟨by rfl, ?_⟩) ?_ ?_
          rotate_left
          · intro w'; go_simp; with_reducible rfl
          rotate_left
          · simp only [Act.put, List.setIfInBounds_toArray, List.set_cons_zero, List.set_cons_succ, i64_w, i32_w]; rfl
          refine pure_ (i := 3) (N := (some 23)) (v := ?_) (a' := ?_) #[true, true, true, true, false, false, false, false, false, false, false, false, false, false, false, false, false] rfl rfl (by kernel_rfl) (fun _ _ _ h => h) (Or.inl ⟨by rfl, ?_⟩) ?_ ?_
          rotate_left
          · intro w'; go_simp; with_reducible rfl
          rotate_left
          · simp only [Act.put, List.setIfInBounds_toArray, List.set_cons_zero, List.set_cons_succ, i64_w, i32_w]; rfl
          refine pure_ (i := 5) (N := (some 25)) (v := ?_) (a' := ?_) #[true, true, true, true, false, true, false, false, false, false, false, false, false, false, false, false, false] rfl rfl (by kernel_rfl) (fun _ _ _ h => h) (Or.inl ⟨by rfl, ?_⟩) ?_ ?_
          rotate_left
          · intro w'; go_simp; with_reducible rfl
          rotate_left
          · simp only [Act.put, List.setIfInBounds_toArray, List.set_cons_zero, List.set_cons_succ, i64_w, i32_w]; rfl
          refine pure_ (i := 6) (N := (some 26)) (v := ?_) (a' := ?_) #[true, true, true, true, false, true, true, false, false, false, false, false, false, false, false, false, false] rfl rfl (by kernel_rfl) (fun _ _ _ h => h) (Or.inl ⟨by rfl, ?_⟩) ?_ ?_
          rotate_left
          · intro w'; go_simp; with_reducible rfl
          rotate_left
          · simp only [Act.put, List.setIfInBounds_toArray, List.set_cons_zero, List.set_cons_succ, i64_w, i32_w]; rfl
          refine pure_ (i := 7) (N := (some 27)) (v := ?_) (a' := ?_) #[true, true, true, true, false, true, true, true, false, false, false, false, false, false, false, false, false] rfl rfl (by kernel_rfl) (fun _ _ _ h => h) (Or.inl ⟨by rfl, ?_⟩) ?_ ?_
          rotate_left
          · intro w'; go_simp; with_reducible rfl
          rotate_left
          · simp only [Act.put, List.setIfInBounds_toArray, List.set_cons_zero, List.set_cons_succ, i64_w, i32_w]; rfl
          refine pure_ (i := 8) (N := (some 28)) (v := ?_) (a' := ?_) #[true, true, true, true, false, true, true, true, true, false, false, false, false, false, false, false, false] rfl rfl (by kernel_rfl) (fun _ _ _ h => h) (Or.inl ⟨by rfl, ?_⟩) ?_ ?_
          rotate_left
          · intro w'; go_simp; with_reducible rfl
          rotate_left
          · simp only [Act.put, List.setIfInBounds_toArray, List.set_cons_zero, List.set_cons_succ, i64_w, i32_w]; rfl
          refine pure_ (i := 9) (N := (some 29)) (v := ?_) (a' := ?_) #[true, true, true, true, false, true, true, true, true, true, false, false, false, false, false, false, false] rfl rfl (by kernel_rfl) (fun _ _ _ h => h) (Or.inl ⟨by rfl, ?_⟩) ?_ ?_
          rotate_left
          · intro w'; go_simp; with_reducible rfl
          rotate_left
          · simp only [Act.put, List.setIfInBounds_toArray, List.set_cons_zero, List.set_cons_succ, i64_w, i32_w]; rfl
          refine pure_ (i := 10) (N := (some 30)) (v := ?_) (a' := ?_) #[true, true, true, true, false, true, true, true, true, true, true, false, false, false, false, false, false] rfl rfl (by kernel_rfl) (fun _ _ _ h => h) (Or.inl ⟨by rfl, ?_⟩) ?_ ?_
          rotate_left
          · intro w'; go_simp; with_reducible rfl
          rotate_left
          · simp only [Act.put, List.setIfInBounds_toArray, List.set_cons_zero, List.set_cons_succ, i64_w, i32_w]; rfl
          refine pure_ (i := 11) (N := (some 31)) (v := ?_) (a' := ?_) #[true, true, true, true, false, true, true, true, true, true, true, true, false, false, false, false, false] rfl rfl (by kernel_rfl) (fun _ _ _ h => h) (Or.inl ⟨by rfl, ?_⟩) ?_ ?_
          rotate_left
          · intro w'; go_simp; with_reducible rfl
          rotate_left
          · simp only [Act.put, List.setIfInBounds_toArray, List.set_cons_zero, List.set_cons_succ, i64_w, i32_w]; rfl
          refine pure_ (i := 12) (N := (some 32)) (v := ?_) (a' := ?_) #[true, true, true, true, false, true, true, true, true, true, true, true, true, false, false, false, false] rfl rfl (by kernel_rfl) (fun _ _ _ h => h) (Or.inl ⟨by rfl, ?_⟩) ?_ ?_
          rotate_left
          · intro w'; go_simp; with_reducible rfl
          rotate_left
          · simp only [Act.put, List.setIfInBounds_toArray, List.set_cons_zero, List.set_cons_succ, i64_w, i32_w]; rfl
          refine take_ (i := 4) (N := (some 24)) (v := ?_) (a' := ?_) #[true, true, true, true, true, true, true, true, true, true, true, true, true, false, false, false, false] rfl rfl (by kernel_rfl) (fun _ _ _ h => h) (Or.inl ⟨by rfl, ?_⟩) hHeld ?_ ?_
          rotate_left
          · rintro w' s0; go_simp; with_reducible rfl
          rotate_left
          · simp only [Act.put, List.setIfInBounds_toArray, List.set_cons_zero, List.set_cons_succ, i64_w, i32_w]; rfl
          refine one_ (i := 13) (N := (some 33)) #[true, true, true, true, true, true, true, true, true, true, true, true, true, true, false, false, false] rfl rfl (by kernel_rfl) (by simp) (fun K hK => ?_)
          refine app_none_step (.tmp 28) (.tmp 32) 76 121 (by rfl) rfl rfl Tryd.underlying76 (by kernel_rfl) (some ad) i i rfl (Nat.le_refl _) (by simp) _ _ rfl ?_
          refine hK.out _ _ hHeld (fun hHeld => ?_)
          clear hK K
          refine pure_ (i := 14) (N := (some 6)) (v := ?_) (a' := ?_) #[true, true, true, true, true, true, true, true, true, true, true, true, true, true, true, false, false] rfl rfl (by kernel_rfl) (fun _ _ _ h => h) (Or.inl ⟨by rfl, ?_⟩) ?_ ?_
          rotate_left
          · intro w'; go_simp; with_reducible rfl
          rotate_left
          · simp only [Act.put, List.setIfInBounds_toArray, List.set_cons_zero, List.set_cons_succ, i64_w, i32_w]; rfl
          refine pure_ (i := 15) (N := (some 7)) (v := ?_) (a' := ?_) #[true, true, true, true, true, true, true, true, true, true, true, true, true, true, true, true, false] rfl rfl (by kernel_rfl) (fun _ _ _ h => h) (Or.inl ⟨by rfl, ?_⟩) ?_ ?_
          rotate_left
          · intro w'; go_simp; with_reducible rfl
          rotate_left
          · simp only [Act.put, List.setIfInBounds_toArray, List.set_cons_zero, List.set_cons_succ, i64_w, i32_w]; rfl
          refine pure_ (i := 16) (N := (some 8)) (v := ?_) (a' := ?_) #[true, true, true, true, true, true, true, true, true, true, true, true, true, true, true, true, true] rfl rfl (by kernel_rfl) (fun _ _ _ h => h) (Or.inl ⟨by rfl, ?_⟩) ?_ ?_
          rotate_left
          · intro w'; go_simp; with_reducible rfl
          rotate_left
          · simp only [Act.put, List.setIfInBounds_toArray, List.set_cons_zero, List.set_cons_succ, i64_w, i32_w]; rfl
          refine done_ (by kernel_rfl) ?_
          go_wp2
          go_ret3
          exact ⟨take_fin HE.out HS.out (HLs.out.trans HLT.out) ⟨some ad, i, by rw [HT0.out.1]; rfl, by rw [HT0.out.1]; omega, by omega, by rw [HT0.out.1]; exact Kd.C_below HT0.out (below_drew hb.out)⟩, below_drew hb.out⟩
      · have hne : c ≠ i + 1 := by omega
        have HT := HT0
        have HD := Lib.hid (show Kd.C kK w (some ⟨ad.block, ad.off + (i + 1) * 3, none⟩) (n - (i + 1)) (xs.drop (i + 1)) from by
          have h := HD0.out
          rw [show ad.add ((i + 1) * kK.sz) = ⟨ad.block, ad.off + (i + 1) * 3, none⟩ from by unfold Addr.add; rw [if_neg (by show ¬ (i + 1) * 3 = 0; omega)]; rfl] at h
          exact h)
        refine start_ (n := 17) (S := (fun w' => w'.cell? ⟨(ad.add (i * 3)).block, (ad.add (i * 3)).off + 2, none⟩ = some (.string p.k))) (ds := []) #[false, false, false, false, false, false, false, false, false, false, false, false, false, false, false, false, false] (by kernel_rfl) rfl rfl (by go_simp) (fun hHeld => ?_)
        refine pure_ (i := 0) (N := (some 20)) (v := ?_) (a' := ?_) #[true, false, false, false, false, false, false, false, false, false, false, false, false, false, false, false, false] rfl rfl (by kernel_rfl) (fun _ _ _ h => h) (Or.inl ⟨by rfl, ?_⟩) ?_ ?_
        rotate_left
        · intro w'; go_simp; with_reducible rfl
        rotate_left
        · simp only [Act.put, List.setIfInBounds_toArray, List.set_cons_zero, List.set_cons_succ, i64_w, i32_w]; rfl
        refine pure_ (i := 1) (N := (some 21)) (v := ?_) (a' := ?_) #[true, true, false, false, false, false, false, false, false, false, false, false, false, false, false, false, false] rfl rfl (by kernel_rfl) (fun _ _ _ h => h) (Or.inl ⟨by rfl, ?_⟩) ?_ ?_
        rotate_left
        · intro w'; go_simp; with_reducible rfl
        rotate_left
        · simp only [Act.put, List.setIfInBounds_toArray, List.set_cons_zero, List.set_cons_succ, i64_w, i32_w]; rfl
        refine pure_ (i := 2) (N := (some 22)) (v := ?_) (a' := ?_) #[true, true, true, false, false, false, false, false, false, false, false, false, false, false, false, false, false] rfl rfl (by kernel_rfl) (fun _ _ _ h => h) (Or.inl ⟨by rfl, ?_⟩) ?_ ?_
        rotate_left
        · intro w'; go_simp; with_reducible rfl
        rotate_left
        · simp only [Act.put, List.setIfInBounds_toArray, List.set_cons_zero, List.set_cons_succ, i64_w, i32_w]; rfl
        refine pure_ (i := 3) (N := (some 23)) (v := ?_) (a' := ?_) #[true, true, true, true, false, false, false, false, false, false, false, false, false, false, false, false, false] rfl rfl (by kernel_rfl) (fun _ _ _ h => h) (Or.inl ⟨by rfl, ?_⟩) ?_ ?_
        rotate_left
        · intro w'; go_simp; with_reducible rfl
        rotate_left
        · simp only [Act.put, List.setIfInBounds_toArray, List.set_cons_zero, List.set_cons_succ, i64_w, i32_w]; rfl
        refine pure_ (i := 5) (N := (some 25)) (v := ?_) (a' := ?_) #[true, true, true, true, false, true, false, false, false, false, false, false, false, false, false, false, false] rfl rfl (by kernel_rfl) (fun _ _ _ h => h) (Or.inl ⟨by rfl, ?_⟩) ?_ ?_
        rotate_left
        · intro w'; go_simp; with_reducible rfl
        rotate_left
        · simp only [Act.put, List.setIfInBounds_toArray, List.set_cons_zero, List.set_cons_succ, i64_w, i32_w]; rfl
        refine pure_ (i := 6) (N := (some 26)) (v := ?_) (a' := ?_) #[true, true, true, true, false, true, true, false, false, false, false, false, false, false, false, false, false] rfl rfl (by kernel_rfl) (fun _ _ _ h => h) (Or.inl ⟨by rfl, ?_⟩) ?_ ?_
        rotate_left
        · intro w'; go_simp; with_reducible rfl
        rotate_left
        · simp only [Act.put, List.setIfInBounds_toArray, List.set_cons_zero, List.set_cons_succ, i64_w, i32_w]; rfl
        refine pure_ (i := 7) (N := (some 27)) (v := ?_) (a' := ?_) #[true, true, true, true, false, true, true, true, false, false, false, false, false, false, false, false, false] rfl rfl (by kernel_rfl) (fun _ _ _ h => h) (Or.inl ⟨by rfl, ?_⟩) ?_ ?_
        rotate_left
        · intro w'; go_simp; with_reducible rfl
        rotate_left
        · simp only [Act.put, List.setIfInBounds_toArray, List.set_cons_zero, List.set_cons_succ, i64_w, i32_w]; rfl
        refine pure_ (i := 8) (N := (some 28)) (v := ?_) (a' := ?_) #[true, true, true, true, false, true, true, true, true, false, false, false, false, false, false, false, false] rfl rfl (by kernel_rfl) (fun _ _ _ h => h) (Or.inl ⟨by rfl, ?_⟩) ?_ ?_
        rotate_left
        · intro w'; go_simp; with_reducible rfl
        rotate_left
        · simp only [Act.put, List.setIfInBounds_toArray, List.set_cons_zero, List.set_cons_succ, i64_w, i32_w]; rfl
        refine pure_ (i := 9) (N := (some 29)) (v := ?_) (a' := ?_) #[true, true, true, true, false, true, true, true, true, true, false, false, false, false, false, false, false] rfl rfl (by kernel_rfl) (fun _ _ _ h => h) (Or.inl ⟨by rfl, ?_⟩) ?_ ?_
        rotate_left
        · intro w'; go_simp; with_reducible rfl
        rotate_left
        · simp only [Act.put, List.setIfInBounds_toArray, List.set_cons_zero, List.set_cons_succ, i64_w, i32_w]; rfl
        refine pure_ (i := 10) (N := (some 30)) (v := ?_) (a' := ?_) #[true, true, true, true, false, true, true, true, true, true, true, false, false, false, false, false, false] rfl rfl (by kernel_rfl) (fun _ _ _ h => h) (Or.inl ⟨by rfl, ?_⟩) ?_ ?_
        rotate_left
        · intro w'; go_simp; with_reducible rfl
        rotate_left
        · simp only [Act.put, List.setIfInBounds_toArray, List.set_cons_zero, List.set_cons_succ, i64_w, i32_w]; rfl
        refine pure_ (i := 11) (N := (some 31)) (v := ?_) (a' := ?_) #[true, true, true, true, false, true, true, true, true, true, true, true, false, false, false, false, false] rfl rfl (by kernel_rfl) (fun _ _ _ h => h) (Or.inl ⟨by rfl, ?_⟩) ?_ ?_
        rotate_left
        · intro w'; go_simp; with_reducible rfl
        rotate_left
        · simp only [Act.put, List.setIfInBounds_toArray, List.set_cons_zero, List.set_cons_succ, i64_w, i32_w]; rfl
        refine pure_ (i := 12) (N := (some 32)) (v := ?_) (a' := ?_) #[true, true, true, true, false, true, true, true, true, true, true, true, true, false, false, false, false] rfl rfl (by kernel_rfl) (fun _ _ _ h => h) (Or.inl ⟨by rfl, ?_⟩) ?_ ?_
        rotate_left
        · intro w'; go_simp; with_reducible rfl
        rotate_left
        · simp only [Act.put, List.setIfInBounds_toArray, List.set_cons_zero, List.set_cons_succ, i64_w, i32_w]; rfl
        refine take_ (i := 4) (N := (some 24)) (v := ?_) (a' := ?_) #[true, true, true, true, true, true, true, true, true, true, true, true, true, false, false, false, false] rfl rfl (by kernel_rfl) (fun _ _ _ h => h) (Or.inl ⟨by rfl, ?_⟩) hHeld ?_ ?_
        rotate_left
        · rintro w' s0; go_simp; with_reducible rfl
        rotate_left
        · simp only [Act.put, List.setIfInBounds_toArray, List.set_cons_zero, List.set_cons_succ, i64_w, i32_w]; rfl
        refine one_ (i := 13) (N := (some 33)) #[true, true, true, true, true, true, true, true, true, true, true, true, true, true, false, false, false] rfl rfl (by kernel_rfl) (by simp) (fun K hK => ?_)
        refine app_full_step kK (.tmp 28) (.tmp 32) 76 121 (.agg #[.string ⟨#[]⟩, .int .u64 0, .string ⟨#[]⟩]) 40 (by rfl) rfl rfl Tryd.underlying76 info121 rfl (by decide) (by decide) (some ad) i i (xs.take i) rfl (Kd.C_below HT.out (below_drew hb.out)) (by simp) _ (n - (i + 1)) _ (xs.drop (i + 1)) rfl (Kd.C_below HD.out (below_drew hb.out)) (by omega) (by omega) (by omega) ?_
        intro v1 w4 hO hb4
        refine hK.out _ _ (keep1 hb4 hHeld) (fun hHeld => ?_)
        clear hK K
        refine pure_ (i := 14) (N := (some 6)) (v := ?_) (a' := ?_) #[true, true, true, true, true, true, true, true, true, true, true, true, true, true, true, false, false] rfl rfl (by kernel_rfl) (fun _ _ _ h => h) (Or.inl ⟨by rfl, ?_⟩) ?_ ?_
        rotate_left
        · intro w'; go_simp; with_reducible rfl
        rotate_left
        · simp only [Act.put, List.setIfInBounds_toArray, List.set_cons_zero, List.set_cons_succ, i64_w, i32_w]; rfl
        refine pure_ (i := 15) (N := (some 7)) (v := ?_) (a' := ?_) #[true, true, true, true, true, true, true, true, true, true, true, true, true, true, true, true, false] rfl rfl (by kernel_rfl) (fun _ _ _ h => h) (Or.inl ⟨by rfl, ?_⟩) ?_ ?_
        rotate_left
        · intro w'; go_simp; with_reducible rfl
        rotate_left
        · simp only [Act.put, List.setIfInBounds_toArray, List.set_cons_zero, List.set_cons_succ, i64_w, i32_w]; rfl
        refine pure_ (i := 16) (N := (some 8)) (v := ?_) (a' := ?_) #[true, true, true, true, true, true, true, true, true, true, true, true, true, true, true, true, true] rfl rfl (by kernel_rfl) (fun _ _ _ h => h) (Or.inl ⟨by rfl, ?_⟩) ?_ ?_
        rotate_left
        · intro w'; go_simp; with_reducible rfl
        rotate_left
        · simp only [Act.put, List.setIfInBounds_toArray, List.set_cons_zero, List.set_cons_succ, i64_w, i32_w]; rfl
        refine done_ (by kernel_rfl) ?_
        go_wp2
        go_ret3
        exact ⟨take_fin HE.out HS.out HLs.out hO, below_step (below_drew hb.out) hb4⟩
end Go.Proofs.YtpafocjmheemjaaDoor.Sk

namespace Go.Proofs.YtpafocjmheemjaaDoor.Sk
open Go.RowKit Go.Proofs.YtpafocjmheemjaaDoorW.PrintWords Go.Proofs.YtpafocjmheemjaaDoorW.PrintLast
deriving instance DecidableEq for KeptD
abbrev S121 := PSkippedFills.S121
abbrev k121 := PSkippedFills.k121
def toS (x : KeptD) : S121 := ⟨x.r, x.n, x.k⟩
theorem C_toS {w : World} {A : Option Addr} {n : Nat} {xs : List KeptD} (h : Kd.C kK w A n xs) : Kd.C k121 w A n (xs.map toS) := by
  obtain ⟨h1, h2, h3⟩ := h
  refine ⟨by simpa using h1, h2, fun hp => ?_⟩
  obtain ⟨ad, e, hc⟩ := h3 hp
  refine ⟨ad, e, fun j p hj => ?_⟩
  rw [List.getElem?_map] at hj
  obtain ⟨q, hq, rfl⟩ := Option.map_eq_some_iff.1 hj
  obtain ⟨c, hl, hK, hcell⟩ := hc j q hq
  obtain rfl : c = encK q := hK
  exact ⟨_, rfl, PSkippedFills.k121_mk w (toS q), hcell⟩
theorem C_ofS {w : World} {A : Option Addr} {n : Nat} {xs : List KeptD} (h : Kd.C k121 w A n (xs.map toS)) : Kd.C kK w A n xs := by
  obtain ⟨h1, h2, h3⟩ := h
  refine ⟨by simpa using h1, h2, fun hp => ?_⟩
  obtain ⟨ad, e, hc⟩ := h3 hp
  refine ⟨ad, e, fun j p hj => ?_⟩
  obtain ⟨c, hl, hK, hcell⟩ := hc j (toS p) (by rw [List.getElem?_map, hj]; rfl)
  obtain rfl := PSkippedFills.k121_open hK
  exact ⟨_, rfl, rfl, hcell⟩
theorem R_Out {α : Type} {d : Kd α} {e base : Nat} {ok : Nat → Prop} {w : World} {v : Value} {xs : List α} (h : d.R e w base ok v xs) : Out d w v xs := by
  obtain ⟨_, inner, ho, hr⟩ := h
  have hn : xs.length = xs.length := rfl
  obtain ⟨A, c, he, hc⟩ := own_reads_row ho (hr.imp_ (fun _ _ hp => d.K_of_M hp)) rfl
  refine ⟨A, c, he, ?_, ?_, hc⟩
  all_goals
    rcases ho.2 with ⟨e1, h0⟩ | ⟨g, cap, cur, e1, _, _, h2, h3, _⟩
    · rw [e1] at he; injection he with _ _ he; subst he; omega
    · rw [e1] at he; injection he with _ _ he; subst he; simp only [maxLen] at h3; omega
theorem Out_ofS {w : World} {v : Value} {xs : List KeptD} (h : Out k121 w v (xs.map toS)) : Out kK w v xs := by
  obtain ⟨A, c, rfl, h1, h2, h3⟩ := h
  rw [List.length_map] at h1 h3
  exact ⟨A, c, by rw [List.length_map], h1, h2, C_ofS h3⟩
theorem wrap1 (i : Nat) (h : i < 1000000) : wrap64 ((i : Int) + 1) = ((i + 1 : Nat) : Int) := by unfold wrap64; omega
theorem rd_map {xs : List KeptD} {i : Nat} {p : KeptD} (h : xs[i]? = some p) : PSkippedFills.rd_T121 (xs.map toS) (i : Int) = toS p := by
  unfold PSkippedFills.rd_T121
  rw [List.getD_eq_getElem?_getD, List.getElem?_map, Int.toNat_natCast, h]; rfl
theorem toList_inj {a b : ByteArray} : (a.toList == b.toList) = decide (a = b) := by
  rw [Bool.eq_iff_iff, beq_iff_eq, decide_eq_true_iff, ByteArray.toList_eq, ByteArray.toList_eq]
  constructor
  · intro h
    cases a; cases b; congr 1; exact Array.toList_inj.1 h
  · rintro rfl; rfl
theorem sizedS (x : KeptD) : PSkippedFills.demurralref12_Sized.f (toS x).f0 (toS x).f1 (toS x).f2 = some (sizedK x) := by
  unfold PSkippedFills.demurralref12_Sized.f sizedK toS
  dsimp only
  by_cases h : x.r.size = 32
  · rw [if_pos (by omega), h, show ((x.k.size : Int) == 32) = (x.k.size == 32) from int_beq _ 32]; rfl
  · rw [if_neg (by omega), show (x.r.size == 32) = false by simpa using h]; rfl
theorem atS_l (xs : List KeptD) (r : ByteArray) (n : Nat) (hx : xs.length ≤ 1000) : ∀ k i : Nat, i ≤ xs.length → xs.length - i < k → (∀ q ∈ xs.take i, sameN q r n = false) → PSkippedFills.demurralref12_At.l0 k r n (xs.map toS) xs.length i = some (atI xs r n) := by
  intro k
  induction k with
  | zero => intro i _ h; omega
  | succ k ih =>
    intro i hi hk hn
    unfold PSkippedFills.demurralref12_At.l0
    by_cases hlt : i < xs.length
    · have hp := List.getElem?_eq_getElem hlt
      generalize xs[i] = p at hp
      rw [if_pos (by omega), if_pos (by omega), if_pos (by simp; omega), rd_map hp]
      have hs : sameN p r n = (p.r.toList == r.toList && p.n == n) := rfl
      cases h : sameN p r n
      · have hr := ih (i + 1) (by omega) (by omega) (none_next hp hn h)
        rw [wrap1 i (by omega), hr]
        by_cases h1 : p.r.toList = r.toList
        · have h2 : ¬ ((p.n : Int) = n) := by
            rw [h] at hs; simp [h1] at hs; omega
          rw [if_pos (by exact h1), if_neg (by exact h2)]
        · rw [if_neg (by exact h1)]
      · rw [h] at hs
        simp at hs
        rw [if_pos (by exact hs.1), if_pos (by show (p.n : Int) = n; rw [hs.2]), atI_hit hp hn h]
    · rw [if_neg (by omega), atI_miss]
      rw [List.take_of_length_le (by omega)] at hn
      exact hn
theorem atS (xs : List KeptD) (r : ByteArray) (n : Nat) (k : Nat) (hx : xs.length ≤ 1000) (hk : xs.length < k) : PSkippedFills.demurralref12_At.f k (xs.map toS) r n = some (atI xs r n) := by
  unfold PSkippedFills.demurralref12_At.f
  rw [List.length_map]
  exact atS_l xs r n hx k 0 (by omega) (by omega) (by simp)
theorem rightS_l (xs : List KeptD) (hx : xs.length ≤ 1000) : ∀ k i : Nat, i ≤ xs.length → 2 * xs.length - i < k → (∀ j < i, okAt xs j = true) → PSkippedFills.demurralref12_Right.l0 k (xs.map toS) (xs.map toS) xs.length i = some (rightK xs) := by
  intro k
  induction k with
  | zero => intro i _ h; omega
  | succ k ih =>
    intro i hi hk hn
    unfold PSkippedFills.demurralref12_Right.l0
    by_cases hlt : i < xs.length
    · have hp := List.getElem?_eq_getElem hlt
      generalize xs[i] = p at hp
      rw [if_pos (by omega), if_pos (by omega), if_pos (by simp; omega), rd_map hp, sizedS, Option.bind_some]
      have hb : okAt xs i = false → rightK xs = false := fun h => by
        unfold rightK
        rw [Bool.and_eq_false_iff]
        left
        rw [List.all_eq_false]
        exact ⟨i, List.mem_range.2 hlt, by simp [h]⟩
      have hs : okAt xs i = (sizedK p && decide (atI (xs.take i) p.r p.n < 0)) := by unfold okAt; rw [hp]
      cases h1 : sizedK p
      · rw [if_neg (by decide), hb (by rw [hs, h1]; rfl)]
      · rw [if_pos rfl, if_pos (by simp; omega), ← List.map_take, show ((i : Int)).toNat = i from rfl, show (toS p).f0 = p.r from rfl, show (toS p).f1 = (p.n : Int) from rfl, atS (xs.take i) _ _ k (by simp; omega) (by simp; omega), Option.bind_some]
        by_cases h2 : atI (xs.take i) p.r p.n < 0
        · rw [if_neg (by omega), wrap1 i (by omega)]
          refine ih (i + 1) (by omega) (by omega) (fun j hj => ?_)
          by_cases hji : j = i
          · subst hji; rw [hs, h1, decide_eq_true h2]; rfl
          · exact hn j (by omega)
        · rw [if_pos (by omega), hb (by rw [hs, h1, decide_eq_false h2]; rfl)]
    · rw [if_neg (by omega), List.length_map]
      congr 1
      unfold rightK
      rw [show (List.range xs.length).all (okAt xs) = true from List.all_eq_true.2 (fun j hj => hn j (by have := List.mem_range.1 hj; omega)), Bool.true_and]
      exact decide_eq_decide.2 (by omega)
theorem rightS (xs : List KeptD) (hx : xs.length ≤ 1000) : PSkippedFills.demurralref12_Right.f (2 * xs.length + 1) (xs.map toS) = some (rightK xs) := by
  unfold PSkippedFills.demurralref12_Right.f
  rw [List.length_map]
  exact rightS_l xs hx _ 0 (by omega) (by omega) (by intro j hj; omega)
end Go.Proofs.YtpafocjmheemjaaDoor.Sk

namespace Go.Proofs.YtpafocjmheemjaaDoor.Sk
open Go.RowKit Go.Proofs.YtpafocjmheemjaaDoorW.PrintWords Go.Proofs.YtpafocjmheemjaaDoorW.PrintLast
theorem eqS (p q : KeptD) : (!((((toS p).f0).toList) == (((toS q).f0).toList)) || (!(((toS p).f1) == ((toS q).f1)) || (!((((toS p).f2).toList) == (((toS q).f2).toList))))) = !decide (p = q) := by
  obtain ⟨a, b, c⟩ := p
  obtain ⟨a', b', c'⟩ := q
  show (!(a.toList == a'.toList) || (!((b : Int) == (b' : Int)) || !(c.toList == c'.toList))) = _
  rw [toList_inj, toList_inj, int_beq, Bool.eq_iff_iff]
  by_cases h1 : a = a' <;> by_cases h2 : b = b' <;> by_cases h3 : c = c' <;> simp [h1, h2, h3]
theorem drop_ne {α : Type} [DecidableEq α] {xs ys : List α} {i : Nat} {p q : α} (hx : xs[i]? = some p) (hy : ys[i]? = some q) : decide (xs.drop i = ys.drop i) = (decide (p = q) && decide (xs.drop (i + 1) = ys.drop (i + 1))) := by
  obtain ⟨h1, rfl⟩ := List.getElem?_eq_some_iff.1 hx
  obtain ⟨h2, rfl⟩ := List.getElem?_eq_some_iff.1 hy
  rw [List.drop_eq_getElem_cons h1, List.drop_eq_getElem_cons h2, Bool.eq_iff_iff]
  simp only [decide_eq_true_iff, Bool.and_eq_true, List.cons.injEq]
theorem sameS_l (xs ys : List KeptD) (hx : xs.length ≤ 1000) (hy : ys.length = xs.length) : ∀ k i : Nat, i ≤ xs.length → xs.length - i < k → PSkippedFills.demurralref12_Same.l0 k (xs.map toS) (ys.map toS) xs.length i = some (decide (xs.drop i = ys.drop i)) := by
  intro k
  induction k with
  | zero => intro i _ h; omega
  | succ k ih =>
    intro i hi hk
    unfold PSkippedFills.demurralref12_Same.l0
    by_cases hlt : i < xs.length
    · have hp := List.getElem?_eq_getElem hlt
      have hq := List.getElem?_eq_getElem (hy ▸ hlt : i < ys.length)
      generalize xs[i] = p at hp
      generalize ys[i] = q at hq
      rw [if_pos (by omega), if_pos (by omega), if_pos (by simp; omega), if_pos (by simp; omega), rd_map hp, rd_map hq, eqS, drop_ne hp hq]
      by_cases h : p = q
      · rw [if_neg (by simp [h]), wrap1 i (by omega), ih (i + 1) (by omega) (by omega), decide_eq_true h]; rfl
      · rw [if_pos (by simp [h]), decide_eq_false h]; rfl
    · rw [if_neg (by omega), List.drop_eq_nil_of_le (by omega), List.drop_eq_nil_of_le (by omega)]; rfl
theorem sameS (xs ys : List KeptD) (hx : xs.length ≤ 1000) : PSkippedFills.demurralref12_Same.f (xs.length + 1) (xs.map toS) (ys.map toS) = some (decide (xs = ys)) := by
  unfold PSkippedFills.demurralref12_Same.f
  rw [List.length_map, List.length_map]
  by_cases h : xs.length = ys.length
  · rw [if_pos (by omega)]
    exact sameS_l xs ys hx h.symm _ 0 (by omega) (by omega)
  · rw [if_neg (by omega), decide_eq_false (fun e => h (by rw [e]))]
theorem putS_l (xs : List KeptD) (p : KeptD) (hx : xs.length ≤ 1000) : ∀ k i : Nat, i ≤ xs.length → xs.length - i < k → PSkippedFills.demurralref12_Put.l0 k (xs.map toS) ((if xs.length < 20 then xs.take i else (xs.take i).drop 1).map toS) (xs.map toS) xs.length i p.r p.n p.k = some (((if xs.length < 20 then xs else xs.drop 1) ++ [p]).map toS) := by
  intro k
  induction k with
  | zero => intro i _ h; omega
  | succ k ih =>
    intro i hi hk
    unfold PSkippedFills.demurralref12_Put.l0
    by_cases hlt : i < xs.length
    · have hq := List.getElem?_eq_getElem hlt
      generalize xs[i] = q at hq
      have hr := ih (i + 1) (by omega) (by omega)
      rw [if_pos (by omega), if_pos (by omega), if_pos (by simp; omega), rd_map hq, wrap1 i (by omega)]
      by_cases h2 : xs.length < 20
      · rw [if_pos h2, take_next hq] at hr
        rw [if_pos h2]
        have e : (List.take i xs ++ [q]).map toS = (List.take i xs).map toS ++ [⟨(toS q).f0, (toS q).f1, (toS q).f2⟩] := by simp [toS]
        rw [e] at hr
        by_cases h3 : 0 < i
        · rw [if_pos (by omega), if_pos (by simp; omega)]; exact hr
        · rw [if_neg (by omega), if_pos (by simp; omega), if_pos (by simp; omega)]; exact hr
      · rw [if_neg h2] at hr ⊢
        by_cases h3 : 0 < i
        · rw [take_next hq, List.drop_append_of_le_length (by simp; omega)] at hr
          have e : ((List.take i xs).drop 1 ++ [q]).map toS = ((List.take i xs).drop 1).map toS ++ [⟨(toS q).f0, (toS q).f1, (toS q).f2⟩] := by simp [toS]
          rw [e] at hr
          rw [if_pos (by omega), if_pos (by simp; omega)]; exact hr
        · obtain rfl : i = 0 := by omega
          rw [if_neg (by omega), if_neg (by simp; omega)]
          rw [show (xs.take (0 + 1)).drop 1 = [] by simp] at hr
          exact hr
    · have e : xs.take i = xs := List.take_of_length_le (by omega)
      rw [if_neg (by omega), if_pos (by rw [e]; split <;> simp <;> omega), e]
      split <;> simp [toS]
theorem putS (xs : List KeptD) (p : KeptD) (hx : xs.length ≤ 1000) : PSkippedFills.demurralref12_Put.f (xs.length + 1) (xs.map toS) p.r p.n p.k = some (((if xs.length < 20 then xs else xs.drop 1) ++ [p]).map toS) := by
  unfold PSkippedFills.demurralref12_Put.f
  rw [List.length_map]
  have := putS_l xs p hx (xs.length + 1) 0 (by omega) (by omega)
  simpa using this
end Go.Proofs.YtpafocjmheemjaaDoor.Sk

set_option linter.unusedSimpArgs false
namespace Go.Proofs.YtpafocjmheemjaaDoor.Sk
open Go.RowKit Go.Proofs.YtpafocjmheemjaaDoorW.PrintWords Go.Proofs.YtpafocjmheemjaaDoorW.PrintLast
theorem Same12_any (A : Option Addr) (n c : Nat) (xs : List KeptD) (B : Option Addr) (m cb : Nat) (ys : List KeptD) (w : World) (h1 : Kd.C kK w A n xs) (hc : n ≤ c) (h2 : Kd.C kK w B m ys) (hcb : m ≤ cb) (hn : n ≤ 1000) :
    Calls Tryd.prog 57 #[.slice A n c, .slice B m cb] w fun e w' => e = .returned (.bool (decide (xs = ys))) ∧ Below w.heap.size w w' := by
  have e1 := h1.1
  have e2 := h2.1
  subst e1; subst e2
  have := PSkippedFills.demurralref12_Same.calls (xs.length + 1) A c (xs.map toS) B cb (ys.map toS) (decide (xs = ys)) w (by rw [List.length_map]; exact C_toS h1) (by rw [List.length_map]; exact hc) (by rw [List.length_map]; exact C_toS h2) (by rw [List.length_map]; exact hcb) (sameS xs ys hn)
  rw [List.length_map, List.length_map] at this
  exact this.mono fun _ _ h => ⟨h.1, h.2.below⟩
theorem RAt_any (A : Option Addr) (n c : Nat) (xs : List KeptD) (r : ByteArray) (m : Nat) (w : World) (h1 : Kd.C kK w A n xs) (hc : n ≤ c) (hn : n ≤ 1000) :
    Calls Tryd.prog 78 #[.slice A n c, .string r, .int .u64 m] w fun e w' => e = .returned (.int .i64 (atI xs r m)) ∧ Below w.heap.size w w' := by
  have e1 := h1.1
  subst e1
  have := PSkippedFills.demurralref12_At.calls (xs.length + 1) A c (xs.map toS) r m (atI xs r m) w (by rw [List.length_map]; exact C_toS h1) (by rw [List.length_map]; exact hc) (atS xs r m _ hn (by omega))
  rw [List.length_map] at this
  exact this
theorem RRight_any (A : Option Addr) (n c : Nat) (xs : List KeptD) (w : World) (h1 : Kd.C kK w A n xs) (hc : n ≤ c) (hn : n ≤ 1000) :
    Calls Tryd.prog 54 #[.slice A n c] w fun e w' => e = .returned (.bool (rightK xs)) ∧ Below w.heap.size w w' := by
  have e1 := h1.1
  subst e1
  have := PSkippedFills.demurralref12_Right.calls (2 * xs.length + 1) A c (xs.map toS) (rightK xs) w (by rw [List.length_map]; exact C_toS h1) (by rw [List.length_map]; exact hc) (rightS xs hn)
  rw [List.length_map] at this
  exact this
theorem RSized_any (x : KeptD) (w : World) :
    Calls Tryd.prog 77 #[.agg #[.string x.r, .int .u64 x.n, .string x.k]] w fun e w' => e = .returned (.bool (sizedK x)) ∧ Below w.heap.size w w' :=
  PSkippedFills.demurralref12_Sized.calls _ _ _ _ w (sizedS x)
theorem RPut_any (A : Option Addr) (n c : Nat) (xs : List KeptD) (x : KeptD) (w : World) (h1 : Kd.C kK w A n xs) (hc : n ≤ c) (hn : n ≤ 1000) :
    Calls Tryd.prog 81 #[.slice A n c, .agg #[.string x.r, .int .u64 x.n, .string x.k]] w fun e w' => (∃ v, e = .returned v ∧ Out kK w' v ((if xs.length < 20 then xs else xs.drop 1) ++ [x])) ∧ Below w.heap.size w w' := by
  have e1 := h1.1
  subst e1
  have := PSkippedFills.demurralref12_Put.calls (xs.length + 1) A c (xs.map toS) x.r x.n x.k _ w (by rw [List.length_map]; exact C_toS h1) (by rw [List.length_map]; exact hc) (putS xs x hn)
  rw [List.length_map] at this
  refine this.mono ?_
  rintro e w' ⟨v, rfl, hr, hb⟩
  exact ⟨⟨v, rfl, Out_ofS (R_Out hr)⟩, hb⟩

def key12 : ByteArray := ⟨#[48, 49, 50, 51, 52, 53, 54, 55, 56, 57, 97, 98, 99, 100, 101, 102, 48, 49, 50, 51, 52, 53, 54, 55, 56, 57, 97, 98, 99, 100, 101, 102]⟩
theorem alive_put : putE [] ⟨key12, 3, key12⟩ = 0 := by decide +kernel
theorem alive_putK : putK [] ⟨key12, 3, key12⟩ = [⟨key12, 3, key12⟩] := rfl
theorem alive_takeE : takeE [⟨key12, 3, key12⟩] key12 3 = 0 := by decide +kernel
theorem alive_takeS : takeS [⟨key12, 3, key12⟩] key12 3 = key12 := by decide +kernel
theorem alive_takeL : takeL [⟨key12, 3, key12⟩] key12 3 = [] := by decide +kernel
set_option maxRecDepth 100000 in
set_option maxHeartbeats 1000000 in
theorem alive12_any (w : World) : Calls Tryd.prog 55 #[] w fun e w' => e = .returned (.bool true) ∧ Below w.heap.size w w' := by
  go_enter Tryd.func55, Tryd.ntmps55
  go_wp2_with fail
  refine (Put_any none 0 0 [] ⟨key12, 3, key12⟩ w (Kd.C_nil kK w) (Nat.le_refl _) (by omega) (by omega)).mono ?_
  rintro e w1 ⟨⟨v, rfl, ho⟩, hb1⟩
  rw [alive_put] at ho ⊢
  rw [if_pos rfl, alive_putK] at ho
  obtain ⟨A, c, rfl, h1, h2, h3⟩ := ho
  have HC := Lib.hid h3
  clear h3
  go_wp2_with fail
  refine (Take_any A 1 c [⟨key12, 3, key12⟩] key12 3 w1 HC.out h1 h2 (by omega)).mono ?_
  rintro e w2 ⟨⟨v, rfl, ho⟩, hb2⟩
  rw [alive_takeE, alive_takeS]
  rw [alive_takeL] at ho
  obtain ⟨A2, c2, rfl, h4, h5, h6⟩ := ho
  have h7 := Lib.hid h6
  clear h6
  have hb := Lib.hid (below_step hb1 hb2)
  clear hb1 hb2
  have hk : (key12.toList == key12.toList) = true := by simp
  unfold key12 at hk ⊢
  go_wp2
  go_ret
  exact ⟨rfl, hb.out⟩
end Go.Proofs.YtpafocjmheemjaaDoor.Sk

namespace Go.Proofs.YtpafocjmheemjaaDoor.Sk
open Go.RowKit
theorem atI_neg (xs : List KeptD) (r : ByteArray) (n : Nat) : atI xs r n < 0 ↔ ∀ q ∈ xs, sameN q r n = false := by
  unfold atI
  cases h : xs.any (fun x => sameN x r n)
  · rw [if_neg (by simp)]
    rw [List.any_eq_false] at h
    exact ⟨fun _ q hq => by simpa using h q hq, fun _ => by omega⟩
  · rw [if_pos rfl]
    obtain ⟨q, hq, h1⟩ := List.any_eq_true.1 h
    exact ⟨fun h2 => by omega, fun h2 => by rw [h2 q hq] at h1; cases h1⟩
theorem rightK_iff (xs : List KeptD) : rightK xs = true ↔ xs.length ≤ 20 ∧ (∀ q ∈ xs, sizedK q = true) ∧ xs.Pairwise (fun a b => sameN a b.r b.n = false) := by
  unfold rightK
  rw [Bool.and_eq_true, decide_eq_true_iff, List.all_eq_true, And.comm]
  refine and_congr Iff.rfl ?_
  rw [List.pairwise_iff_getElem]
  constructor
  · intro h
    have h' : ∀ (k : Nat) (hk : k < xs.length), sizedK xs[k] = true ∧ ∀ q ∈ xs.take k, sameN q xs[k].r xs[k].n = false := fun k hk => by
      have := h k (List.mem_range.2 hk)
      unfold okAt at this
      rw [List.getElem?_eq_getElem hk] at this
      simp only [Bool.and_eq_true, decide_eq_true_iff] at this
      exact ⟨this.1, (atI_neg _ _ _).1 this.2⟩
    refine ⟨fun q hq => ?_, fun i j hi hj hij => (h' j hj).2 _ (List.mem_iff_getElem?.2 ⟨i, by rw [List.getElem?_take, if_pos hij, List.getElem?_eq_getElem hi]⟩)⟩
    obtain ⟨k, hk, rfl⟩ := List.mem_iff_getElem.1 hq
    exact (h' k hk).1
  · rintro ⟨h1, h2⟩ k hk
    have hk := List.mem_range.1 hk
    unfold okAt
    rw [List.getElem?_eq_getElem hk]
    simp only [Bool.and_eq_true, decide_eq_true_iff]
    refine ⟨h1 _ (List.getElem_mem hk), (atI_neg _ _ _).2 (fun q hq => ?_)⟩
    obtain ⟨i, hi, rfl⟩ := List.mem_iff_getElem.1 hq
    rw [List.length_take] at hi
    rw [List.getElem_take]
    exact h2 i k (by omega) hk (by omega)
/-- what is left of a table where one more is put -/
def restK (xs : List KeptD) : List KeptD := if xs.length = 20 then xs.drop 1 else xs
theorem putK_eq (xs : List KeptD) (x : KeptD) : putK xs x = restK xs ++ [x] := rfl
theorem once_facts {xs : List KeptD} {x : KeptD} (h : putE xs x = 0) :
    rightK (restK xs) = true ∧ rightK (putK xs x) = true ∧ atI (putK xs x) x.r x.n = (restK xs).length ∧ atI (restK xs) x.r x.n < 0 ∧ xs.length ≤ 20 := by
  unfold putE at h
  have hr : rightK xs = true := by
    cases h1 : rightK xs
    · rw [if_pos h1] at h; cases h
    · rfl
  rw [if_neg (by rw [hr]; decide)] at h
  have hs : sizedK x = true := by
    cases h1 : sizedK x
    · rw [if_pos h1] at h; cases h
    · rfl
  rw [if_neg (by rw [hs]; decide)] at h
  have ha : atI xs x.r x.n < 0 := by
    by_cases h1 : 0 ≤ atI xs x.r x.n
    · rw [if_pos h1] at h; cases h
    · omega
  have ha := (atI_neg _ _ _).1 ha
  obtain ⟨h1, h2, h3⟩ := (rightK_iff _).1 hr
  have hsub : (restK xs).Sublist xs := by
    unfold restK; split
    · exact List.drop_sublist _ _
    · exact List.Sublist.refl _
  have hlen : (restK xs).length + 1 ≤ 20 := by
    unfold restK; split
    · rw [List.length_drop]; omega
    · omega
  have ha' : ∀ q ∈ restK xs, sameN q x.r x.n = false := fun q hq => ha q (hsub.mem hq)
  refine ⟨(rightK_iff _).2 ⟨by omega, fun q hq => h2 q (hsub.mem hq), h3.sublist hsub⟩, (rightK_iff _).2 ⟨?_, ?_, ?_⟩, ?_, (atI_neg _ _ _).2 ha', h1⟩
  · rw [putK_eq, List.length_append]; exact hlen
  · rw [putK_eq]
    intro q hq
    rcases List.mem_append.1 hq with hq | hq
    · exact h2 q (hsub.mem hq)
    · rw [List.mem_singleton.1 hq]; exact hs
  · rw [putK_eq, List.pairwise_append]
    refine ⟨h3.sublist hsub, List.pairwise_singleton _ _, fun a hA b hB => ?_⟩
    rw [List.mem_singleton.1 hB]
    exact ha' a hA
  · rw [putK_eq]
    refine atI_hit (p := x) (by simp) (by simpa using ha') ?_
    unfold sameN; simp
theorem once_more {xs : List KeptD} {x : KeptD} (h : putE xs x = 0) :
    takeE (putK xs x) x.r x.n = 0 ∧ takeS (putK xs x) x.r x.n = x.k ∧ takeL (putK xs x) x.r x.n = restK xs ∧ takeE (restK xs) x.r x.n = 5 ∧ putE (putK xs x) x = 7 ∧ rightK (restK xs) = true ∧ rightK (putK xs x) = true ∧ xs.length ≤ 20 := by
  obtain ⟨h1, h2, h3, h4, h5⟩ := once_facts h
  have hs : sizedK x = true := ((rightK_iff _).1 h2).2.1 x (by rw [putK_eq]; simp)
  have e1 : takeE (putK xs x) x.r x.n = 0 := by
    unfold takeE; rw [if_neg (by rw [h2]; decide), if_neg (by omega)]
  refine ⟨e1, ?_, ?_, ?_, ?_, h1, h2, h5⟩
  · unfold takeS; rw [if_pos e1, h3, putK_eq, Int.toNat_natCast]; simp
  · unfold takeL; rw [if_pos e1, h3, putK_eq, Int.toNat_natCast]; simp
  · unfold takeE; rw [if_neg (by rw [h1]; decide), if_pos h4]
  · unfold putE; rw [if_neg (by rw [h2]; decide), if_neg (by rw [hs]; decide), if_pos (by omega)]
end Go.Proofs.YtpafocjmheemjaaDoor.Sk

set_option linter.unusedSimpArgs false
/- LAYER 12: a table filled. -/
namespace Go.Proofs.YtpafocjmheemjaaDoor.Sk
open Go.RowKit Go.Proofs.YtpafocjmheemjaaDoorW.PrintWords Go.Proofs.YtpafocjmheemjaaDoorW.PrintLast
/-- tables and chains behind k steps -/
def flF (xs : List KeptD) (r c : ByteArray) (f : Nat) : Nat → List KeptD × ByteArray
  | 0 => (xs, c)
  | k + 1 => (putK (flF xs r c f k).1 ⟨r, f + k, stK (flF xs r c f k).2⟩, stN (flF xs r c f k).2)
theorem putK_len (xs : List KeptD) (x : KeptD) : (putK xs x).length ≤ xs.length + 1 := by
  unfold putK
  rw [List.length_append]
  split
  · rw [List.length_drop]; show _ + 1 ≤ _; omega
  · exact Nat.le_refl _
theorem flF_len (xs : List KeptD) (r c : ByteArray) (f k : Nat) : (flF xs r c f k).1.length ≤ xs.length + k := by
  induction k with
  | zero => exact Nat.le_refl _
  | succ k ih => exact Nat.le_trans (putK_len _ _) (by omega)
theorem flF_size (xs : List KeptD) (r c : ByteArray) (f k : Nat) (h : c.size = 32) : (flF xs r c f k).2.size = 32 := by
  cases k with
  | zero => exact h
  | succ k => exact stN_size _
def FillR (v : Value) (s : ByteArray) (e : Int) : Value := .tuple #[v, .string s, .int .i64 e]
attribute [local irreducible] Calls mixF
set_option maxHeartbeats 4000000 in
set_option maxRecDepth 100000 in
theorem Fill_right (A : Option Addr) (n c : Nat) (xs : List KeptD) (r b : ByteArray) (f t : Nat) (w : World) (hc : Kd.C kK w A n xs) (hnc : n ≤ c) (h : rightK xs = false) :
    Calls Tryd.prog 53 #[.slice A n c, .string r, .string b, .int .u64 (f : Int), .int .u64 (t : Int)] w fun e w' => e = .returned (FillR (.slice none 0 0) ⟨#[]⟩ 1) ∧ Below w.heap.size w w' := by
  have HR := Right_any A n c xs w hc hnc
  rw [h] at HR
  replace HR := Lib.hid HR
  clear hc
  go_enter Tryd.func53, Tryd.ntmps53
  go_wp2_with fail
  refine HR.out.mono ?_
  rintro e w1 ⟨rfl, hb⟩
  go_wp2
  go_ret3
  exact ⟨rfl, hb⟩
set_option maxHeartbeats 4000000 in
set_option maxRecDepth 100000 in
theorem Fill_size (A : Option Addr) (n c : Nat) (xs : List KeptD) (r b : ByteArray) (f t : Nat) (w : World) (hc : Kd.C kK w A n xs) (hnc : n ≤ c) (h : rightK xs = true) (hs : ¬ (r.size = 32 ∧ b.size = 32)) :
    Calls Tryd.prog 53 #[.slice A n c, .string r, .string b, .int .u64 (f : Int), .int .u64 (t : Int)] w fun e w' => e = .returned (FillR (.slice none 0 0) ⟨#[]⟩ 2) ∧ Below w.heap.size w w' := by
  have HR := Right_any A n c xs w hc hnc
  rw [h] at HR
  replace HR := Lib.hid HR
  clear hc
  by_cases h1 : r.size = 32
  · have e1 : ((r.size : Int) != 32) = false := by rw [h1]; rfl
    have e2 : ((b.size : Int) != 32) = true := by rw [bne_iff_ne]; intro hh; exact hs ⟨h1, by omega⟩
    clear hs h1
    go_enter Tryd.func53, Tryd.ntmps53
    go_wp2_with fail
    refine HR.out.mono ?_
    rintro e w1 ⟨rfl, hb⟩
    go_wp2
    go_ret3
    exact ⟨rfl, hb⟩
  · have e1 : ((r.size : Int) != 32) = true := by rw [bne_iff_ne]; omega
    clear hs h1
    go_enter Tryd.func53, Tryd.ntmps53
    go_wp2_with fail
    refine HR.out.mono ?_
    rintro e w1 ⟨rfl, hb⟩
    go_wp2
    go_ret3
    exact ⟨rfl, hb⟩
set_option maxHeartbeats 4000000 in
set_option maxRecDepth 100000 in
theorem Fill_gap (A : Option Addr) (n c : Nat) (xs : List KeptD) (r b : ByteArray) (f t : Nat) (w : World) (hc : Kd.C kK w A n xs) (hnc : n ≤ c) (h : rightK xs = true) (h1 : r.size = 32) (h2 : b.size = 32) (ht : t < 18446744073709551616) (hg : t < f ∨ f + 10 < t) :
    Calls Tryd.prog 53 #[.slice A n c, .string r, .string b, .int .u64 (f : Int), .int .u64 (t : Int)] w fun e w' => e = .returned (FillR (.slice none 0 0) ⟨#[]⟩ 8) ∧ Below w.heap.size w w' := by
  have HR := Right_any A n c xs w hc hnc
  rw [h] at HR
  replace HR := Lib.hid HR
  have e1 : ((r.size : Int) != 32) = false := by rw [h1]; rfl
  have e2 : ((b.size : Int) != 32) = false := by rw [h2]; rfl
  clear hc h1 h2
  rcases hg with hg | hg
  · have hg1 : (f : Int) > (t : Int) := by omega
    go_enter Tryd.func53, Tryd.ntmps53
    go_wp2_with fail
    refine HR.out.mono ?_
    rintro e w1 ⟨rfl, hb⟩
    go_wp2
    go_ret3
    exact ⟨rfl, hb⟩
  · have hg1 : ¬ ((f : Int) > (t : Int)) := by omega
    have hw : IntKind.u64.wrap ((t : Int) - (f : Int)) = (t : Int) - (f : Int) := by show ((t : Int) - (f : Int)) % 18446744073709551616 = _; omega
    have hg2 : (t : Int) - (f : Int) > 10 := by omega
    go_enter Tryd.func53, Tryd.ntmps53
    go_wp2_with fail
    refine HR.out.mono ?_
    rintro e w1 ⟨rfl, hb⟩
    go_wp2
    go_ret3
    exact ⟨rfl, hb⟩
/-- what Fill answers where the arguments may be -/
def FillRes (xs : List KeptD) (r b : ByteArray) (f t : Nat) (e : Ending) (w : World) : Prop :=
  ((∃ m, f ≤ m ∧ m < t ∧ 0 ≤ atI xs r m) ∧ e = .returned (FillR (.slice none 0 0) ⟨#[]⟩ 7)) ∨
  ((∀ m, f ≤ m → m < t → atI xs r m < 0) ∧ ∃ v, e = .returned (FillR v (flF xs r b f (t - f)).2 0) ∧ Out kK w v (flF xs r b f (t - f)).1)
set_option maxHeartbeats 8000000 in
set_option maxRecDepth 100000 in
theorem Fill_yes (A : Option Addr) (n c : Nat) (xs : List KeptD) (r b : ByteArray) (f t : Nat) (w : World) (hc : Kd.C kK w A n xs) (hnc : n ≤ c) (hcc : c ≤ 9223372036854775807) (hn : n ≤ 500) (h : rightK xs = true) (h1 : r.size = 32) (h2 : b.size = 32) (ht : t < 18446744073709551616) (hg1 : f ≤ t) (hg2 : t ≤ f + 10) (hK : KeysAt w) :
    Calls Tryd.prog 53 #[.slice A n c, .string r, .string b, .int .u64 (f : Int), .int .u64 (t : Int)] w fun e w' => FillRes xs r b f t e w' ∧ Below w.heap.size w w' := by
  have HR := Right_any A n c xs w hc hnc
  rw [h] at HR
  replace HR := Lib.hid HR
  have e1 : ((r.size : Int) != 32) = false := by rw [h1]; rfl
  have e2 : ((b.size : Int) != 32) = false := by rw [h2]; rfl
  have g1 : ¬ ((f : Int) > (t : Int)) := by omega
  have hw : IntKind.u64.wrap ((t : Int) - (f : Int)) = (t : Int) - (f : Int) := by show ((t : Int) - (f : Int)) % 18446744073709551616 = _; omega
  have g2 : ¬ ((t : Int) - (f : Int) > 10) := by omega
  have g3 : decide (10 < (t : Int) - (f : Int)) = false := decide_eq_false (by omega)
  have g5 : decide (t < f) = false := decide_eq_false (by omega)
  have HC := Lib.hid (fun w1 (hg : Gr w w1) => Kd.C_below hc hg)
  have HK := Lib.hid (fun w1 (hg : Gr w w1) => hK.up hg)
  have H2 := Lib.hid h2
  have hlx := hc.1
  have HLX := Lib.hid hlx
  clear hc hK h1 h2 hlx
  go_enter Tryd.func53, Tryd.ntmps53
  go_wp2_with fail
  refine HR.out.mono ?_
  rintro e w1 ⟨rfl, hb⟩
  have HB0 := Lib.hid hb
  clear hb HR
  go_wp2_with fail
  clear e1 e2 g1 hw
  go_loopw [10, 11, 12, 13] (fun _ _ _ c13 wr => ∃ q : Nat, c13 = .int .u64 (q : Int) ∧ Aside0 (f ≤ q ∧ q ≤ t ∧ ∀ m, f ≤ m → m < q → atI xs r m < 0) ∧ Aside0 (Below w.heap.size w wr)) (fun _ _ _ c13 _ => t - (intOf c13).toNat)
  case atStart => exact ⟨f, rfl, ⟨by omega, by omega, fun m h1 h2 => by omega⟩, ⟨HB0.out⟩⟩
  case round =>
    clear HB0
    obtain ⟨q, rfl, Hi, HB⟩ := hrel
    by_cases hlt : q < t
    · have i1 : (q : Int) < (t : Int) := by omega
      have hP := place_any A n c xs r q wr (HC.out _ HB.out)
      by_cases hat : 0 ≤ atI xs r q
      · have HP := Lib.hid hP
        have HE := Lib.hid (show ∃ m, f ≤ m ∧ m < t ∧ 0 ≤ atI xs r m from ⟨q, Hi.out.1, hlt, hat⟩)
        generalize atI xs r q = z at *
        clear hP
        go_wp2_with fail
        refine HP.out.mono ?_
        rintro e w2 ⟨rfl, hb⟩
        replace HB := Aside0.mk (below_step HB.out hb)
        clear hb
        go_wp2
        go_ret3
        exact ⟨Or.inl ⟨HE.out, rfl⟩, HB.out⟩
      · have HAt := Lib.hid (show ∀ m, f ≤ m → m < q + 1 → atI xs r m < 0 from fun m h1 h2 => by
          rcases Nat.lt_or_ge m q with h | h
          · exact Hi.out.2.2 m h1 h
          · obtain rfl : m = q := by omega
            omega)
        have HP := Lib.hid hP
        have hz : ¬ (atI xs r q ≥ 0) := by omega
        have hw1 : IntKind.u64.wrap ((q : Int) + 1) = (q : Int) + 1 := by show ((q : Int) + 1) % 18446744073709551616 = _; omega
        clear hP hat
        generalize atI xs r q = z at *
        go_wp2_with fail
        refine HP.out.mono ?_
        rintro e w2 ⟨rfl, hb⟩
        replace HB := Aside0.mk (below_step HB.out hb)
        clear hb
        go_wp2
        go_roundw
        case rel => exact ⟨q + 1, by go_num, ⟨by have := Hi.out.1; omega, by omega, HAt.out⟩, HB⟩
        case measure => simp [intOf]; omega
    · have hq : q = t := by have := Hi.out.2.1; omega
      have HNo := Lib.hid (show ∀ m, f ≤ m → m < t → atI xs r m < 0 from fun m h1 h2 => Hi.out.2.2 m h1 (by omega))
      have i1 : ¬ ((q : Int) < (t : Int)) := by omega
      have HO0 := Lib.hid (show Out kK wr (.slice A n c) xs from ⟨A, c, by rw [HLX.out], by rw [HLX.out]; exact hnc, hcc, by rw [HLX.out]; exact HC.out _ HB.out⟩)
      have HB1 := Lib.hid HB.out
      clear HB Hi hq hlt
      go_wp2_with fail
      go_loopw [0, 2, 14] (fun c0 c2 c14 wq => ∃ (q : Nat) (v : Value), c14 = .int .u64 (q : Int) ∧ c0 = v ∧ c2 = .string (flF xs r b f (q - f)).2 ∧ Aside0 (f ≤ q ∧ q ≤ t) ∧ Aside0 (Out kK wq v (flF xs r b f (q - f)).1) ∧ Aside0 (Below w.heap.size w wq)) (fun _ _ c14 _ => t - (intOf c14).toNat)
      case atStart => exact ⟨f, _, rfl, rfl, by rw [Nat.sub_self]; rfl, ⟨by omega, by omega⟩, ⟨by rw [Nat.sub_self]; exact HO0.out⟩, ⟨HB1.out⟩⟩
      case round =>
        clear HO0 HB1
        obtain ⟨q, v, rfl, rfl, rfl, Hq, HOut, HB⟩ := hrel
        by_cases hlt : q < t
        · have i2 : (q : Int) < (t : Int) := by omega
          have HSt := Lib.hid (Step_yes (flF xs r b f (q - f)).2 _ (flF_size xs r b f (q - f) H2.out) (HK.out _ HB.out))
          have HF := Lib.hid (show flF xs r b f (q + 1 - f) = (putK (flF xs r b f (q - f)).1 ⟨r, q, stK (flF xs r b f (q - f)).2⟩, stN (flF xs r b f (q - f)).2) by
            have := Hq.out.1
            rw [show q + 1 - f = (q - f) + 1 by omega]
            show (putK _ ⟨r, f + (q - f), _⟩, _) = _
            rw [show f + (q - f) = q by omega])
          have hlen := flF_len xs r b f (q - f)
          obtain ⟨A', c', hv, h1', h2', hC'⟩ := HOut.out
          have HC' := Lib.hid hC'
          have HL' := Lib.hid (show (flF xs r b f (q - f)).1.length ≤ 1000 by have := HLX.out; omega)
          subst hv
          clear hC' HOut hlen
          generalize (flF xs r b f (q - f)).1 = ys at *
          generalize (flF xs r b f (q - f)).2 = cc at *
          have hw1 : IntKind.u64.wrap ((q : Int) + 1) = (q : Int) + 1 := by show ((q : Int) + 1) % 18446744073709551616 = _; omega
          go_wp2_with fail
          refine HSt.out.mono ?_
          rintro e w3 ⟨rfl, hb⟩
          have HC3 := Lib.hid (Kd.C_below HC'.out hb)
          replace HB := Aside0.mk (below_step HB.out hb)
          clear hb HSt HC'
          generalize hsn : stN cc = sn at *
          generalize hsk : stK cc = sk at *
          go_wp2_with fail
          refine (put_any A' ys.length c' ys ⟨r, q, sk⟩ _ HC3.out h1' h2' HL'.out).mono ?_
          rintro e w4 ⟨⟨v', rfl, hO⟩, hb⟩
          replace HB := Aside0.mk (below_step HB.out hb)
          have HO4 := Lib.hid hO
          clear hb HC3 hO
          go_wp2
          go_roundw
          case rel => exact ⟨q + 1, v', by go_num, rfl, by rw [HF.out], ⟨by have := Hq.out.1; omega, by omega⟩, ⟨by rw [HF.out]; exact HO4.out⟩, HB⟩
          case measure => simp [intOf]; omega
        · obtain rfl : q = t := by have := Hq.out.2; omega
          have i2 : ¬ ((q : Int) < (q : Int)) := by omega
          have HO5 := Lib.hid HOut.out
          clear HOut
          go_wp2
          go_ret3
          exact ⟨Or.inr ⟨HNo.out, _, rfl, HO5.out⟩, HB.out⟩
end Go.Proofs.YtpafocjmheemjaaDoor.Sk

set_option linter.unusedSimpArgs false
/- LAYER 12: a table filled, in one contract. -/
namespace Go.Proofs.YtpafocjmheemjaaDoor.Sk
open Go.RowKit Go.Proofs.YtpafocjmheemjaaDoorW.PrintWords Go.Proofs.YtpafocjmheemjaaDoorW.PrintLast
/-- is a number from f up to t there? -/
def oldB (xs : List KeptD) (r : ByteArray) (f t : Nat) : Bool := (List.range (t - f)).any fun i => decide (0 ≤ atI xs r (f + i))
theorem oldB_yes {xs : List KeptD} {r : ByteArray} {f t m : Nat} (h1 : f ≤ m) (h2 : m < t) (h3 : 0 ≤ atI xs r m) : oldB xs r f t = true := by
  unfold oldB
  rw [List.any_eq_true]
  exact ⟨m - f, List.mem_range.2 (by omega), decide_eq_true (by rw [show f + (m - f) = m by omega]; exact h3)⟩
theorem oldB_no {xs : List KeptD} {r : ByteArray} {f t : Nat} (h : ∀ m, f ≤ m → m < t → atI xs r m < 0) : oldB xs r f t = false := by
  unfold oldB
  rw [List.any_eq_false]
  intro i hi
  have := h (f + i) (by omega) (by have := List.mem_range.1 hi; omega)
  simp only [decide_eq_true_eq]
  omega
theorem oldB_all {xs : List KeptD} {r : ByteArray} {f t : Nat} (h : oldB xs r f t = false) : ∀ m, f ≤ m → m < t → atI xs r m < 0 := by
  intro m h1 h2
  rcases Int.lt_or_le (atI xs r m) 0 with h3 | h3
  · exact h3
  · rw [oldB_yes h1 h2 h3] at h; cases h
def fillE (xs : List KeptD) (r b : ByteArray) (f t : Nat) : Int :=
  if rightK xs = false then 1 else if ¬ (r.size = 32 ∧ b.size = 32) then 2 else if t < f ∨ f + 10 < t then 8 else if oldB xs r f t = true then 7 else 0
def fillL (xs : List KeptD) (r b : ByteArray) (f t : Nat) : List KeptD := if fillE xs r b f t = 0 then (flF xs r b f (t - f)).1 else []
def fillS (xs : List KeptD) (r b : ByteArray) (f t : Nat) : ByteArray := if fillE xs r b f t = 0 then (flF xs r b f (t - f)).2 else ⟨#[]⟩
attribute [local irreducible] Calls mixF
theorem Fill_any (A : Option Addr) (n c : Nat) (xs : List KeptD) (r b : ByteArray) (f t : Nat) (w : World) (hc : Kd.C kK w A n xs) (hnc : n ≤ c) (hcc : c ≤ 9223372036854775807) (hn : n ≤ 500) (ht : t < 18446744073709551616) (hK : KeysAt w) :
    Calls Tryd.prog 53 #[.slice A n c, .string r, .string b, .int .u64 (f : Int), .int .u64 (t : Int)] w fun e w' => (∃ v, e = .returned (FillR v (fillS xs r b f t) (fillE xs r b f t)) ∧ Out kK w' v (fillL xs r b f t)) ∧ Below w.heap.size w w' := by
  have bad : ∀ E : Int, fillE xs r b f t = E → E ≠ 0 → fillS xs r b f t = ⟨#[]⟩ ∧ fillL xs r b f t = [] := fun E h h0 => by
    unfold fillS fillL
    rw [if_neg (by rw [h]; exact h0), if_neg (by rw [h]; exact h0)]
    exact ⟨rfl, rfl⟩
  cases hr : rightK xs
  · have hE : fillE xs r b f t = 1 := by unfold fillE; rw [if_pos hr]
    obtain ⟨h1, h2⟩ := bad 1 hE (by decide)
    rw [hE, h1, h2]
    refine (Fill_right A n c xs r b f t w hc hnc hr).mono ?_
    rintro e w' ⟨rfl, hb⟩
    exact ⟨⟨_, rfl, Out_nil _ _⟩, hb⟩
  by_cases hs : ¬ (r.size = 32 ∧ b.size = 32)
  · have hE : fillE xs r b f t = 2 := by unfold fillE; rw [if_neg (by rw [hr]; decide), if_pos hs]
    obtain ⟨h1, h2⟩ := bad 2 hE (by decide)
    rw [hE, h1, h2]
    refine (Fill_size A n c xs r b f t w hc hnc hr hs).mono ?_
    rintro e w' ⟨rfl, hb⟩
    exact ⟨⟨_, rfl, Out_nil _ _⟩, hb⟩
  replace hs := Decidable.of_not_not hs
  by_cases hg : t < f ∨ f + 10 < t
  · have hE : fillE xs r b f t = 8 := by unfold fillE; rw [if_neg (by rw [hr]; decide), if_neg (not_not_intro hs), if_pos hg]
    obtain ⟨h1, h2⟩ := bad 8 hE (by decide)
    rw [hE, h1, h2]
    refine (Fill_gap A n c xs r b f t w hc hnc hr hs.1 hs.2 ht hg).mono ?_
    rintro e w' ⟨rfl, hb⟩
    exact ⟨⟨_, rfl, Out_nil _ _⟩, hb⟩
  refine (Fill_yes A n c xs r b f t w hc hnc hcc hn hr hs.1 hs.2 ht (by omega) (by omega) hK).mono ?_
  rintro e w' ⟨h | h, hb⟩
  · obtain ⟨⟨m, h1, h2, h3⟩, rfl⟩ := h
    have hE : fillE xs r b f t = 7 := by unfold fillE; rw [if_neg (by rw [hr]; decide), if_neg (not_not_intro hs), if_neg hg, if_pos (oldB_yes h1 h2 h3)]
    obtain ⟨k1, k2⟩ := bad 7 hE (by decide)
    rw [hE, k1, k2]
    exact ⟨⟨_, rfl, Out_nil _ _⟩, hb⟩
  · obtain ⟨h, v, rfl, hO⟩ := h
    have hE : fillE xs r b f t = 0 := by unfold fillE; rw [if_neg (by rw [hr]; decide), if_neg (not_not_intro hs), if_neg hg, if_neg (by rw [oldB_no h]; decide)]
    unfold fillS fillL
    rw [if_pos hE, if_pos hE, hE]
    exact ⟨⟨v, rfl, hO⟩, hb⟩
end Go.Proofs.YtpafocjmheemjaaDoor.Sk

set_option linter.unusedSimpArgs false
/- LAYER 12: a table filled in parts (plain law). -/
namespace Go.Proofs.YtpafocjmheemjaaDoor.Sk
open Go.RowKit Go.Proofs.YtpafocjmheemjaaDoorW.PrintWords Go.Proofs.YtpafocjmheemjaaDoorW.PrintLast
theorem flF_add (xs : List KeptD) (r c : ByteArray) (f a k : Nat) : flF (flF xs r c f a).1 r (flF xs r c f a).2 (f + a) k = flF xs r c f (a + k) := by
  induction k with
  | zero => rfl
  | succ k ih =>
    show (putK (flF (flF xs r c f a).1 r (flF xs r c f a).2 (f + a) k).1 ⟨r, f + a + k, stK (flF (flF xs r c f a).1 r (flF xs r c f a).2 (f + a) k).2⟩, stN (flF (flF xs r c f a).1 r (flF xs r c f a).2 (f + a) k).2) = (putK (flF xs r c f (a + k)).1 ⟨r, f + (a + k), stK (flF xs r c f (a + k)).2⟩, stN (flF xs r c f (a + k)).2)
    rw [ih, Nat.add_assoc]
theorem putE_zero {xs : List KeptD} {x : KeptD} (h1 : rightK xs = true) (h2 : sizedK x = true) (h3 : atI xs x.r x.n < 0) : putE xs x = 0 := by
  unfold putE
  rw [if_neg (by rw [h1]; decide), if_neg (by rw [h2]; decide), if_neg (by omega)]
theorem atI_put {xs : List KeptD} {x : KeptD} {r : ByteArray} {m : Nat} (h : atI xs r m < 0) (hn : x.n ≠ m) : atI (putK xs x) r m < 0 := by
  rw [atI_neg] at h ⊢
  intro q hq
  unfold putK at hq
  rcases List.mem_append.1 hq with h1 | h1
  · refine h q ?_
    split at h1
    · exact List.mem_of_mem_drop h1
    · exact h1
  · obtain rfl := List.mem_singleton.1 h1
    unfold sameN
    rw [show (q.n == m) = false from beq_eq_false_iff_ne.2 hn, Bool.and_false]
theorem flF_right (xs : List KeptD) (r c : ByteArray) (f k : Nat) (hr : r.size = 32) (h : rightK xs = true) (hn : ∀ m, f ≤ m → m < f + k → atI xs r m < 0) :
    rightK (flF xs r c f k).1 = true ∧ ∀ m, f + k ≤ m → atI xs r m < 0 → atI (flF xs r c f k).1 r m < 0 := by
  induction k with
  | zero => exact ⟨h, fun m _ hm => hm⟩
  | succ k ih =>
    obtain ⟨h1, h2⟩ := ih (fun m a b => hn m a (by omega))
    have hp : putE (flF xs r c f k).1 ⟨r, f + k, stK (flF xs r c f k).2⟩ = 0 := by
      refine putE_zero h1 ?_ (h2 (f + k) (Nat.le_refl _) (hn _ (by omega) (by omega)))
      unfold sizedK
      rw [hr, stK_size]
      rfl
    have ho := once_facts hp
    exact ⟨ho.2.1, fun m hm ha => atI_put (h2 m (by omega) ha) (by show f + k ≠ m; omega)⟩
/-- both parts, where all may be filled at once -/
theorem fill_parts {xs : List KeptD} {r c : ByteArray} {f a b : Nat} (h : fillE xs r c f (f + (a + b)) = 0) :
    fillE xs r c f (f + a) = 0 ∧ fillE (fillL xs r c f (f + a)) r (fillS xs r c f (f + a)) (f + a) (f + (a + b)) = 0 ∧
    fillL (fillL xs r c f (f + a)) r (fillS xs r c f (f + a)) (f + a) (f + (a + b)) = fillL xs r c f (f + (a + b)) ∧
    fillS (fillL xs r c f (f + a)) r (fillS xs r c f (f + a)) (f + a) (f + (a + b)) = fillS xs r c f (f + (a + b)) ∧ rightK (fillL xs r c f (f + (a + b))) = true := by
  have h0 := h
  unfold fillE at h
  split at h
  · cases h
  rename_i hr
  split at h
  · cases h
  rename_i hs
  split at h
  · cases h
  rename_i hg
  split at h
  · cases h
  rename_i ho
  have hr : rightK xs = true := by simpa using hr
  have hs := Decidable.of_not_not hs
  have ho : oldB xs r f (f + (a + b)) = false := by simpa using ho
  have hall := oldB_all ho
  have h1 : fillE xs r c f (f + a) = 0 := by
    unfold fillE
    rw [if_neg (by rw [hr]; decide), if_neg (not_not_intro hs), if_neg (by omega), if_neg (by rw [oldB_no (fun m h1 h2 => hall m h1 (by omega))]; decide)]
  have hf1 := flF_right xs r c f a hs.1 hr (fun m h1 h2 => hall m h1 (by omega))
  have hf2 := flF_right xs r c f (a + b) hs.1 hr (fun m h1 h2 => hall m h1 (by omega))
  have eL : fillL xs r c f (f + a) = (flF xs r c f a).1 := by unfold fillL; rw [if_pos h1, show f + a - f = a by omega]
  have eS : fillS xs r c f (f + a) = (flF xs r c f a).2 := by unfold fillS; rw [if_pos h1, show f + a - f = a by omega]
  have h2 : fillE (flF xs r c f a).1 r (flF xs r c f a).2 (f + a) (f + (a + b)) = 0 := by
    unfold fillE
    rw [if_neg (by rw [hf1.1]; decide), if_neg (not_not_intro ⟨hs.1, flF_size xs r c f a hs.2⟩), if_neg (by omega), if_neg (by rw [oldB_no (fun m h1 h2 => hf1.2 m h1 (hall m (by omega) h2))]; decide)]
  rw [eL, eS]
  refine ⟨h1, h2, ?_, ?_, ?_⟩
  · unfold fillL
    rw [if_pos h2, if_pos h0, show f + (a + b) - (f + a) = b by omega, show f + (a + b) - f = a + b by omega, flF_add]
  · unfold fillS
    rw [if_pos h2, if_pos h0, show f + (a + b) - (f + a) = b by omega, show f + (a + b) - f = a + b by omega, flF_add]
  · unfold fillL
    rw [if_pos h0, show f + (a + b) - f = a + b by omega]
    exact hf2.1
end Go.Proofs.YtpafocjmheemjaaDoor.Sk

set_option linter.unusedSimpArgs false
/- LAYER 12: SkippedParts. -/
namespace Go.Proofs.YtpafocjmheemjaaDoor.Sk
open Go.RowKit Go.Proofs.YtpafocjmheemjaaDoorW.PrintWords Go.Proofs.YtpafocjmheemjaaDoorW.PrintLast
theorem modN (i : Int) (M : Nat) (hM : 0 < M) : ∃ (t : Int) (q : Nat), Int.tmod i (M : Int) = t ∧ -(M : Int) ≤ t ∧ t ≤ M ∧ q < M ∧ (t + (M : Int)) % (M : Int) = (q : Int) ∧ Int.tmod (t + (M : Int)) (M : Int) = (q : Int) := by
  obtain ⟨t, h1, h2, h3, q, h4, h5, h6⟩ := modQ i (M - 1)
  have e : ((M - 1 : Nat) : Int) + 1 = (M : Int) := by omega
  rw [e] at h1
  rw [show t + ((M - 1 : Nat) : Int) + 1 = t + (M : Int) by omega, e] at h5 h6
  exact ⟨t, q, h1, by omega, by omega, by omega, h5, h6⟩
attribute [local irreducible] Calls mixF
set_option maxHeartbeats 8000000 in
set_option maxRecDepth 100000 in
theorem SkippedParts_walk (A : Option Addr) (n0 c : Nat) (xs0 : List KeptD) (r b : ByteArray) (f0 : Nat) (a0 b0 : Int) (W : World) (hC : Kd.C kK W A n0 xs0) (hc : n0 ≤ c) (hcc : c ≤ 9223372036854775807) (hK : KeysAt W) :
    Calls Tryd.prog 14 #[.slice A n0 c, .string r, .string b, .int .u64 (f0 : Int), .int .i64 a0, .int .i64 b0] W fun e W' => e = .returned (.bool true) ∧ Below W.heap.size W W' := by
  have HFew := Lib.hid (few12_any A n0 c W hc)
  have hC22 : Kd.C kK W A (min n0 22) (xs0.take 22) := by
    refine ⟨by rw [List.length_take]; have := hC.1; omega, by omega, fun h0 => ?_⟩
    obtain ⟨ad, e, hh⟩ := hC.2.2 (by omega)
    refine ⟨ad, e, fun j p hj => hh j p ?_⟩
    rw [List.getElem?_take] at hj
    split at hj
    · exact hj
    · cases hj
  have hn22 : min n0 22 ≤ 22 := by omega
  have hc22 : min n0 22 ≤ c := by omega
  obtain ⟨f, hf⟩ : ∃ f, f = f0 % 1000 := ⟨_, rfl⟩
  have hfm : (f0 : Int) % 1000 = (f : Int) := by omega
  have hf1 : f < 1000 := by omega
  obtain ⟨t, a, ht1, ht2, ht3, ha, ha1, ha2⟩ : ∃ (t : Int) (q : Nat), Int.tmod a0 6 = t ∧ -6 ≤ t ∧ t ≤ 6 ∧ q < 6 ∧ (t + 6) % 6 = (q : Int) ∧ Int.tmod (t + 6) 6 = (q : Int) := modN a0 6 (by decide)
  obtain ⟨t', q, ht1', ht2', ht3', hq, hq1, hq2⟩ : ∃ (t : Int) (q : Nat), Int.tmod b0 5 = t ∧ -5 ≤ t ∧ t ≤ 5 ∧ q < 5 ∧ (t + 5) % 5 = (q : Int) ∧ Int.tmod (t + 5) 5 = (q : Int) := modN b0 5 (by decide)
  generalize min n0 22 = n at *
  generalize xs0.take 22 = xs at *
  clear hC hc hf
  have hlx := hC22.1
  have HF := fun (t : Nat) (ht : t ≤ 2000) w1 (hg : Gr W w1) => Fill_any A n c xs r b f t w1 (Kd.C_below hC22 hg) hc22 hcc (by omega) (by omega) (hK.up hg)
  have HF1 := Lib.hid (HF (f + a) (by omega))
  have HF2 := Lib.hid (HF (f + (a + q)) (by omega))
  have HKK := Lib.hid (fun w1 (hg : Gr W w1) => hK.up hg)
  clear HF hC22 hK
  unfold FillR at HF1 HF2
  have hw1 : IntKind.u64.wrap (a : Int) = (a : Int) := by show (a : Int) % 18446744073709551616 = _; omega
  have hw2 : IntKind.u64.wrap ((f : Int) + (a : Int)) = (f : Int) + (a : Int) := by show ((f : Int) + (a : Int)) % 18446744073709551616 = _; omega
  have hw3 : IntKind.u64.wrap ((a : Int) + (q : Int)) = (a : Int) + (q : Int) := by show ((a : Int) + (q : Int)) % 18446744073709551616 = _; omega
  have hw4 : IntKind.u64.wrap ((f : Int) + ((a : Int) + (q : Int))) = (f : Int) + ((a : Int) + (q : Int)) := by show ((f : Int) + ((a : Int) + (q : Int))) % 18446744073709551616 = _; omega
  rw [show ((f + a : Nat) : Int) = (f : Int) + (a : Int) by omega] at HF1
  rw [show ((f + (a + q) : Nat) : Int) = (f : Int) + ((a : Int) + (q : Int)) by omega] at HF2
  go_enter Tryd.func14, Tryd.ntmps14
  go_wp2_with fail
  refine HFew.out.mono ?_
  rintro e w1 ⟨rfl, rfl⟩
  have HB := Lib.hid (Below.refl W.heap.size W)
  go_wp2_with fail
  refine (HF1.out _ HB.out).mono ?_
  rintro e w2 ⟨⟨v1, rfl, hO1⟩, hb⟩
  replace HB := Lib.hid (below_step HB.out hb)
  have HO1 := Lib.hid hO1
  clear hb hO1 HF1
  go_wp2_with fail
  refine (HF2.out _ HB.out).mono ?_
  rintro e w3 ⟨⟨v2, rfl, hO2⟩, hb⟩
  replace HB := Lib.hid (below_step HB.out hb)
  replace HO1 := Lib.hid (HO1.out.below hb)
  have HO2 := Lib.hid hO2
  clear hb hO2 HF2
  clear ht1 ht2 ht3 ha1 ha2 ht1' ht2' ht3' hq1 hq2
  by_cases hE2 : fillE xs r b f (f + (a + q)) = 0
  · obtain ⟨p1, p2, p3, p4, p5⟩ := fill_parts hE2
    obtain ⟨A1, c1, rfl, hn1, hc1, hC1⟩ := HO1.out
    obtain ⟨A2, c2, rfl, hn2, hc2, hC2⟩ := HO2.out
    have hl1 : (fillL xs r b f (f + a)).length ≤ 500 := by
      unfold fillL
      rw [if_pos p1]
      have := flF_len xs r b f (f + a - f)
      omega
    have hl2 : (fillL xs r b f (f + (a + q))).length ≤ 1000 := by
      unfold fillL
      rw [if_pos hE2]
      have := flF_len xs r b f (f + (a + q) - f)
      omega
    have hF3 := Fill_any A1 _ c1 (fillL xs r b f (f + a)) r (fillS xs r b f (f + a)) (f + a) (f + (a + q)) w3 hC1 hn1 hc1 hl1 (by omega) (HKK.out _ HB.out)
    rw [p2, p3, p4] at hF3
    rw [show ((f + a : Nat) : Int) = (f : Int) + (a : Int) by omega, show ((f + (a + q) : Nat) : Int) = (f : Int) + ((a : Int) + (q : Int)) by omega] at hF3
    unfold FillR at hF3
    have HF3 := Lib.hid hF3
    have HC2 := Lib.hid hC2
    have HR5 := Lib.hid p5
    rw [p1, hE2]
    have HL2 := Lib.hid hl2
    clear hF3 hC1 hC2 p2 p3 p4 p5 HO1 HO2 hl1 hl2 p1 hE2
    generalize fillL xs r b f (f + (a + q)) = all at *
    generalize fillS xs r b f (f + (a + q)) = d at *
    generalize fillL xs r b f (f + a) = tl at *
    generalize fillS xs r b f (f + a) = cs at *
    have hdd : (d.toList == d.toList) = true := by simp
    go_wp2_with fail
    refine HF3.out.mono ?_
    rintro e w4 ⟨⟨v3, rfl, hO3⟩, hb⟩
    obtain ⟨A3, c3, rfl, hn3, hc3, hC3⟩ := hO3
    replace HB := Lib.hid (below_step HB.out hb)
    have HC4 := Lib.hid (fun w5 (hg : Gr w4 w5) => Kd.C_below hC3 hg)
    have HC5 := Lib.hid (fun w5 (hg : Gr w4 w5) => Kd.C_below (Kd.C_below HC2.out hb) hg)
    clear hb hC3 HC2 HF3
    go_wp2_with fail
    refine (alive12_any _).mono ?_
    rintro e w5 ⟨rfl, hb⟩
    replace HB := Lib.hid (below_step HB.out hb)
    have HG := Lib.hid (below_step (Below.refl w4.heap.size w4) hb)
    clear hb
    go_wp2_with fail
    have hS := Same12_any A3 all.length c3 all A2 all.length c2 all w5 (HC4.out _ HG.out) hn3 (HC5.out _ HG.out) hn2 HL2.out
    rw [decide_eq_true rfl] at hS
    refine hS.mono ?_
    rintro e w6 ⟨rfl, hb⟩
    replace HB := Lib.hid (below_step HB.out hb)
    replace HG := Lib.hid (below_step HG.out hb)
    clear hb hS
    go_wp2_with fail
    have hR := Right_any A3 all.length c3 all w6 (HC4.out _ HG.out) hn3
    rw [HR5.out] at hR
    refine hR.mono ?_
    rintro e w7 ⟨rfl, hb⟩
    replace HB := Lib.hid (below_step HB.out hb)
    clear hb hR
    go_wp2
    go_ret
    exact ⟨rfl, HB.out⟩
  · obtain ⟨A2, c2, rfl, hn2, hc2, hC2⟩ := HO2.out
    have hl2 : (fillL xs r b f (f + (a + q))).length = 0 := by unfold fillL; rw [if_neg hE2]; rfl
    rw [hl2]
    have e2 : (fillE xs r b f (f + (a + q)) != 0) = true := by rw [bne_iff_ne]; exact hE2
    clear hC2 HO1 HO2 hl2 hE2 hn2
    generalize fillS xs r b f (f + (a + q)) = d at *
    generalize fillS xs r b f (f + a) = cs at *
    generalize fillE xs r b f (f + (a + q)) = E2 at *
    by_cases hE1 : fillE xs r b f (f + a) = 0
    · have e1 : (fillE xs r b f (f + a) != 0) = false := by rw [hE1]; rfl
      clear hE1
      generalize fillE xs r b f (f + a) = E1 at *
      go_wp2_with fail
      refine (alive12_any _).mono ?_
      rintro e w5 ⟨rfl, hb⟩
      replace HB := Lib.hid (below_step HB.out hb)
      clear hb
      go_wp2
      go_ret
      exact ⟨rfl, HB.out⟩
    · have e1 : (fillE xs r b f (f + a) != 0) = true := by rw [bne_iff_ne]; exact hE1
      clear hE1
      generalize fillE xs r b f (f + a) = E1 at *
      go_wp2_with fail
      refine (alive12_any _).mono ?_
      rintro e w5 ⟨rfl, hb⟩
      replace HB := Lib.hid (below_step HB.out hb)
      clear hb
      go_wp2
      go_ret
      exact ⟨rfl, HB.out⟩
end Go.Proofs.YtpafocjmheemjaaDoor.Sk

namespace Go.Proofs.YtpafocjmheemjaaDoor.Sk
open Go.RowKit Go.Proofs.YtpafocjmheemjaaDoorW.PrintWords Go.ChangeShapes Go.WideShapes Go.Deep
theorem cells22K : Tryd.prog.cellsOf 23 = 1 := by kernel_rfl
theorem cells9K : Tryd.prog.cellsOf 9 = 1 := by kernel_rfl
theorem cells28 : Tryd.prog.cellsOf 121 = 3 := by kernel_rfl
set_option maxRecDepth 100000 in
theorem open_kept {H : Type} {enc : TypeId × Value → H} {W : World} (n : Nat) (cs : List Value) (y : DataW H × List MemPlace) (h : DataW.trod enc Tryd.prog W 0 (fun _ => true) true n 121 cs = some y) : ∃ x : KeptD, kK.K W x cs ∧ x.n < 18446744073709551616 := by
  obtain ⟨y0, y1, y2, m, rfl, hl, h0, h1, h2⟩ := trod_struct3 Tryd.underlying121 h
  rw [cells28] at hl
  match cs, hl with
  | [c0, c1, c2], _ =>
    obtain ⟨b, e0, _⟩ := DataW.trod_string Tryd.underlying9 h0
    obtain ⟨k, e1, _, wk⟩ := DataW.trod_int Tryd.underlying23 h1
    obtain ⟨s, e2, _, hs⟩ := DataW.trod_string Tryd.underlying9 h2
    have d0 : c0 = .string b := by simpa [cells9K] using e0
    have d1 : c1 = .int .u64 k := by simpa [cells22K, cells9K] using e1
    have d2 : c2 = .string s := by simpa [cells9K, cells22K] using e2
    have hk := u64_bounds wk
    refine ⟨⟨b, k.toNat, s⟩, ?_, by show k.toNat < _; omega⟩
    rw [d0, d1, d2]
    show [Value.string b, .int .u64 k, .string s] = [Value.string b, .int .u64 (k.toNat : Int), .string s]
    rw [Int.toNat_of_nonneg hk.1]
end Go.Proofs.YtpafocjmheemjaaDoor.Sk

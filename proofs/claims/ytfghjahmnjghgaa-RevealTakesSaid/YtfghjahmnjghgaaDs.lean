import Derived.Test.YtfghjahmnjghgaaDa
import Derived.Test.YtfghjahmnjghgaaVa
import Derived.Test.YtfghjahmnjghgaaProg
import Derived.Deep.RegionHeld3
import Derived.Deep.QuietTactic
import Derived.BigQuiet
import Derived.Test.YtfghjahmnjghgaaDb
namespace Go.Proofs.Ytfghjahmnjghgaa.Sk
open Go.RowKit Go.Proofs.YtfghjahmnjghgaaW.PrintWords

structure KeptD where
  r : ByteArray
  n : Nat
  k : ByteArray
instance : Inhabited KeptD := ⟨⟨.empty, 0, .empty⟩⟩
def encK (x : KeptD) : List Value := [.string x.r, .int .u64 x.n, .string x.k]
def kK : Kd KeptD := flat 3 encK (fun _ => rfl) (fun x u hu => by simp [encK] at hu; rcases hu with rfl | rfl | rfl <;> rfl)
theorem kK_at {w : World} {A : Option Addr} {n : Nat} {xs : List KeptD} (h : Kd.C kK w A n xs) (i : Nat) (hi : i < n) :
    ∃ ad p, A = some ad ∧ xs[i]? = some p ∧ w.cell? (ad.add (i * 3)) = some (.string p.r) ∧ w.cell? ⟨(ad.add (i * 3)).block, (ad.add (i * 3)).off + 1, none⟩ = some (.int .u64 p.n) ∧ w.cell? ⟨(ad.add (i * 3)).block, (ad.add (i * 3)).off + 2, none⟩ = some (.string p.k) := by
  obtain ⟨ad, p, e, hp, hc⟩ := flat_at h i hi
  exact ⟨ad, p, e, hp, hc 0 _ rfl, by rw [← add_field _ _ 1 (by omega)]; exact hc 1 _ rfl, by rw [← add_field _ _ 2 (by omega)]; exact hc 2 _ rfl⟩

def sameN (x : KeptD) (r : ByteArray) (n : Nat) : Bool := x.r.toList == r.toList && x.n == n

theorem eqAname (d : Nat) (w : World) (x0 y0 : ByteArray) (x1 y1 : Int) :
    (Op.equalIn (d + 2) 86 (.agg #[.string x0, .int .u64 x1]) (.agg #[.string y0, .int .u64 y1])).run Try.prog w = .ok (x0.toList == y0.toList && (x1 == y1)) w := by
  refine eqA_of Try.underlying86 (by kernel_rfl) ?_
  refine eqf_cons (by rfl) (by go_simp; rfl) (by go_simp; rfl) (by go_simp) ?_
  exact eqf_last (by rfl) (by go_simp; rfl) (by go_simp; rfl) (by go_simp)
attribute [local go_sem high] eqAname

set_option maxRecDepth 100000 in
set_option maxHeartbeats 1000000 in
theorem of_any (x : KeptD) (w : World) :
    Calls Try.prog 58 #[.agg #[.string x.r, .int .u64 x.n, .string x.k]] w fun e w' => e = .returned (.agg #[.string x.r, .int .u64 x.n]) ∧ Below w.heap.size w w' := by
  go_enter Try.func58, Try.ntmps58
  go_wp2
  exact bodyPost_ret (v := .agg #[.string x.r, .int .u64 x.n]) (by simp [results, Try.results58, go_sem]) rfl ⟨rfl, below_alloc (below_alloc (Below.refl _ _) _) _⟩

set_option maxRecDepth 100000 in
set_option maxHeartbeats 1000000 in
theorem place1_any (x : KeptD) (r : ByteArray) (n : Nat) (bx : Nat) (w : World) (h0 : w.cell? ⟨bx, 0, none⟩ = some (.string r)) (h1 : w.cell? ⟨bx, 1, none⟩ = some (.int .u64 n)) :
    Calls Try.prog 61 #[.agg #[.string x.r, .int .u64 x.n, .string x.k], .pointer (some ⟨bx, 0, none⟩)] w fun e w' => e = .returned (.bool (sameN x r n)) ∧ Below w.heap.size w w' := by
  have hlt := World.block_lt_of_cell? w _ h0
  go_enter Try.func61, Try.ntmps61
  go_wp2
  have hB := Lib.hid (below_alloc (Below.refl w.heap.size w) (.cells #[.string x.r, .int .u64 x.n, .string x.k] 79))
  have g0 := alloc_cell h0 (.cells #[.string x.r, .int .u64 x.n, .string x.k] 79)
  have g1 := alloc_cell h1 (.cells #[.string x.r, .int .u64 x.n, .string x.k] 79)
  have c0 : (w.alloc (.cells #[.string x.r, .int .u64 x.n, .string x.k] 79)).cell? ⟨w.heap.size, 0, none⟩ = some (.string x.r) := by go_simp
  have c1 : (w.alloc (.cells #[.string x.r, .int .u64 x.n, .string x.k] 79)).cell? ⟨w.heap.size, 1, none⟩ = some (.int .u64 x.n) := by go_simp
  have c2 : (w.alloc (.cells #[.string x.r, .int .u64 x.n, .string x.k] 79)).cell? ⟨w.heap.size, 2, none⟩ = some (.string x.k) := by go_simp
  have hs : w.heap.size < (w.alloc (.cells #[.string x.r, .int .u64 x.n, .string x.k] 79)).heap.size := by simp
  have hlt2 : bx < (w.alloc (.cells #[.string x.r, .int .u64 x.n, .string x.k] 79)).heap.size := by simp; omega
  generalize w.alloc (.cells #[.string x.r, .int .u64 x.n, .string x.k] 79) = W at hB g0 g1 c0 c1 c2 hs hlt2 ⊢
  clear h0 h1 hlt
  go_region_held3 (fun w' => w'.cell? ⟨bx, 0, none⟩ = some (.string r) ∧ w'.cell? ⟨bx, 1, none⟩ = some (.int .u64 n) ∧ w'.cell? ⟨w.heap.size, 0, none⟩ = some (.string x.r) ∧ w'.cell? ⟨w.heap.size, 1, none⟩ = some (.int .u64 x.n) ∧ w'.cell? ⟨w.heap.size, 2, none⟩ = some (.string x.k))
      (first | go_keep | (exact ⟨(hb1.cell (p := ⟨bx, 0, none⟩) (by simpa using hlt2)).trans (by go_simp), (hb1.cell (p := ⟨bx, 1, none⟩) (by simpa using hlt2)).trans (by go_simp), (hb1.cell (p := ⟨w.heap.size, 0, none⟩) (by simpa using hs)).trans (by go_simp), (hb1.cell (p := ⟨w.heap.size, 1, none⟩) (by simpa using hs)).trans (by go_simp), (hb1.cell (p := ⟨w.heap.size, 2, none⟩) (by simpa using hs)).trans (by go_simp)⟩))
      ((go_at_call 58; refine (of_any x _).mono ?_; rintro e w1 ⟨rfl, hb1⟩))
  go_wp2
  go_ret
  refine ⟨ret_congr ?_, (hB.out.trans (below_drew (Below.refl _ _))).trans (hb1.mono (Nat.le_of_lt (by simpa using hs)))⟩
  show Value.bool (x.r.toList == r.toList && ((x.n : Int) == n)) = _
  rw [int_beq]; rfl

/-- the place of a name -/
def atI (xs : List KeptD) (r : ByteArray) (n : Nat) : Int := if xs.any (fun x => sameN x r n) then ((xs.findIdx fun x => sameN x r n : Nat) : Int) else -1
theorem atI_hit {xs : List KeptD} {r : ByteArray} {n k : Nat} {p : KeptD} (hp : xs[k]? = some p) (hn : ∀ q ∈ xs.take k, sameN q r n = false) (h : sameN p r n = true) : atI xs r n = k := by
  obtain ⟨hl, rfl⟩ := List.getElem?_eq_some_iff.1 hp
  unfold atI
  rw [if_pos (List.any_eq_true.2 ⟨xs[k], List.getElem_mem hl, h⟩)]
  congr 1
  rw [List.findIdx_eq hl]
  exact ⟨h, fun j hj => hn _ (List.mem_iff_getElem?.2 ⟨j, by rw [List.getElem?_take, if_pos hj, List.getElem?_eq_getElem]⟩)⟩
theorem atI_miss {xs : List KeptD} {r : ByteArray} {n : Nat} (hn : ∀ q ∈ xs, sameN q r n = false) : atI xs r n = -1 := by
  unfold atI
  rw [if_neg]
  intro h
  obtain ⟨q, hq, h1⟩ := List.any_eq_true.1 h
  rw [hn q hq] at h1; cases h1
theorem none_next {α : Type} {f : α → Bool} {xs : List α} {k : Nat} {p : α} (h : xs[k]? = some p) (hn : ∀ q ∈ xs.take k, f q = false) (hp : f p = false) : ∀ q ∈ xs.take (k + 1), f q = false := by
  intro q hq
  rw [take_next h] at hq
  rcases List.mem_append.1 hq with hq | hq
  · exact hn q hq
  · rw [List.mem_singleton.1 hq]; exact hp

set_option maxRecDepth 100000 in
set_option maxHeartbeats 1000000 in
theorem IndexFunc_any (A : Option Addr) (n c : Nat) (xs : List KeptD) (r : ByteArray) (m : Nat) (bx : Nat) (w : World) (hc : Kd.C kK w A n xs) (h0 : w.cell? ⟨bx, 0, none⟩ = some (.string r)) (h1 : w.cell? ⟨bx, 1, none⟩ = some (.int .u64 m)) :
    Calls Try.prog 60 #[.slice A n c, .func (.func 61) #[] #[.pointer (some ⟨bx, 0, none⟩)]] w fun e w' => e = .returned (.int .i64 (atI xs r m)) ∧ Below w.heap.size w w' := by
  have hm : n ≤ 9223372036854775807 := hc.2.1
  have HC := Lib.hid hc
  have HL := Lib.hid hc.1
  have H0 := Lib.hid h0
  have H1 := Lib.hid h1
  clear hc h0 h1
  go_enter Try.func60, Try.ntmps60
  go_wp2
  go_loopw [8] (fun i wr => ∃ k : Nat, k ≤ n ∧ i = .int .i64 k ∧ Aside0 (∀ q ∈ xs.take k, sameN q r m = false) ∧ Aside0 (Below w.heap.size w wr)) (fun i _ => (n - intOf i).toNat)
  case atStart => exact ⟨0, by omega, rfl, ⟨by simp⟩, ⟨Below.refl _ _⟩⟩
  case round =>
    obtain ⟨k, hk, rfl, HN, HB⟩ := hrel
    by_cases hlt : k < n
    · obtain ⟨ad, p, rfl, hp, c0, c1, c2⟩ := kK_at HC.out k hlt
      replace c0 := pw_cell_below HB.out c0
      replace c1 := pw_cell_below HB.out c1
      replace c2 := pw_cell_below HB.out c2
      have HP := Lib.hid hp
      clear hp
      cases hs : sameN p r m
      · have HS := Lib.hid hs
        go_wp2_with (first | (go_at_call 61; refine (place1_any p r m bx _ (pw_cell_below HB.out H0.out) (pw_cell_below HB.out H1.out)).mono ?_; rintro e w1 ⟨rfl, hb1⟩))
        exact ⟨⟨k + 1, by omega, by go_num, ⟨none_next HP.out HN.out HS.out⟩, ⟨below_step HB.out hb1⟩⟩, by simp [intOf]; omega⟩
      · have HS := Lib.hid hs
        go_wp2_with (first | (go_at_call 61; refine (place1_any p r m bx _ (pw_cell_below HB.out H0.out) (pw_cell_below HB.out H1.out)).mono ?_; rintro e w1 ⟨rfl, hb1⟩))
        go_ret
        exact ⟨ret_congr (by rw [atI_hit HP.out HN.out HS.out]; rfl), below_step HB.out hb1⟩
    · have e : k = n := by omega
      subst e
      rw [List.take_of_length_le (by rw [HL.out]; omega)] at HN
      go_wp2
      go_ret
      exact ⟨ret_congr (by rw [atI_miss HN.out]; rfl), HB.out⟩

set_option maxRecDepth 100000 in
set_option maxHeartbeats 1000000 in
theorem place_any (A : Option Addr) (n c : Nat) (xs : List KeptD) (r : ByteArray) (m : Nat) (w : World) (hc : Kd.C kK w A n xs) :
    Calls Try.prog 57 #[.slice A n c, .agg #[.string r, .int .u64 m]] w fun e w' => e = .returned (.int .i64 (atI xs r m)) ∧ Below w.heap.size w w' := by
  have HC := Lib.hid (Kd.C_below hc (below_alloc (Below.refl _ _) (.cells #[.string r, .int .u64 m] 86)))
  clear hc
  go_enter Try.func57, Try.ntmps57
  go_wp2_with (first | (go_at_call 60; refine (IndexFunc_any A n c xs r m w.heap.size _ HC.out (by go_simp) (by go_simp)).mono ?_; rintro e w1 ⟨rfl, hb1⟩))
  go_ret
  exact ⟨rfl, below_step (below_alloc (Below.refl _ _) _) hb1⟩

def sizedK (x : KeptD) : Bool := x.r.size == 32 && x.k.size == 32

set_option maxRecDepth 100000 in
set_option maxHeartbeats 1000000 in
theorem sized_any (x : KeptD) (w : World) :
    Calls Try.prog 56 #[.agg #[.string x.r, .int .u64 x.n, .string x.k]] w fun e w' => e = .returned (.bool (sizedK x)) ∧ Below w.heap.size w w' := by
  by_cases h : x.r.size = 32
  · have h1 : ((x.r.size : Int) == 32) = true := by simp; omega
    go_enter Try.func56, Try.ntmps56
    go_wp2
    go_ret
    refine ⟨ret_congr ?_, below_alloc (Below.refl _ _) _⟩
    show Value.bool ((x.k.size : Int) == 32) = _
    unfold sizedK
    rw [h, show ((x.k.size : Int) == 32) = (x.k.size == 32) from int_beq _ 32]; rfl
  · have h1 : ((x.r.size : Int) == 32) = false := by simp; omega
    go_enter Try.func56, Try.ntmps56
    go_wp2
    go_ret
    refine ⟨ret_congr ?_, below_alloc (Below.refl _ _) _⟩
    unfold sizedK
    rw [show (x.r.size == 32) = false by simpa using h]; rfl
end Go.Proofs.Ytfghjahmnjghgaa.Sk

set_option linter.unusedSimpArgs false
namespace Go.Proofs.Ytfghjahmnjghgaa.Sk
open Go.RowKit Go.Proofs.YtfghjahmnjghgaaW.PrintWords Go.Proofs.YtfghjahmnjghgaaW.PrintLast

def okAt (xs : List KeptD) (k : Nat) : Bool := match xs[k]? with
  | some p => sizedK p && decide (atI (xs.take k) p.r p.n < 0)
  | none => true
def rightK (xs : List KeptD) : Bool := (List.range xs.length).all (okAt xs) && decide (xs.length ≤ 20)
set_option maxRecDepth 100000 in
set_option maxHeartbeats 2000000 in
theorem Right_any (A : Option Addr) (n c : Nat) (xs : List KeptD) (w : World) (hc : Kd.C kK w A n xs) (hnc : n ≤ c) :
    Calls Try.prog 51 #[.slice A n c] w fun e w' => e = .returned (.bool (rightK xs)) ∧ Below w.heap.size w w' := by
  have hm : n ≤ 9223372036854775807 := hc.2.1
  have HC := Lib.hid hc
  have HL := Lib.hid hc.1
  clear hc
  go_enter Try.func51, Try.ntmps51
  go_wp2
  go_loopw [7] (fun i wr => ∃ k : Nat, k ≤ n ∧ i = .int .i64 k ∧ Aside0 (∀ j, j < k → okAt xs j = true) ∧ Aside0 (Below w.heap.size w wr)) (fun i _ => (n - intOf i).toNat)
  case atStart => exact ⟨0, by omega, rfl, ⟨by simp⟩, ⟨Below.refl _ _⟩⟩
  case round =>
    obtain ⟨k, hk, rfl, HN, HB⟩ := hrel
    by_cases hlt : k < n
    · obtain ⟨ad, p, rfl, hp, c0, c1, c2⟩ := kK_at HC.out k hlt
      replace c0 := pw_cell_below HB.out c0
      replace c1 := pw_cell_below HB.out c1
      replace c2 := pw_cell_below HB.out c2
      have hok : okAt xs k = (sizedK p && decide (atI (xs.take k) p.r p.n < 0)) := by unfold okAt; rw [hp]
      have HOK := Lib.hid hok
      have hbad : okAt xs k = false → rightK xs = false := fun h => by
        unfold rightK
        have : (List.range xs.length).all (okAt xs) = false := by
          rw [List.all_eq_false]; exact ⟨k, by rw [List.mem_range, HL.out]; exact hlt, by rw [h]; decide⟩
        rw [this]; rfl
      have HBAD := Lib.hid hbad
      have hcap : (k : Int) ≤ (c : Int) := by omega
      clear hp hok hbad
      generalize hat : atI (xs.take k) p.r p.n = at_ at HOK
      have HAT := Lib.hid hat
      clear hat
      go_wp2_with fail
      have hB := Lib.hid (below_alloc HB.out (.cells #[.string p.r, .int .u64 p.n, .string p.k] 79))
      have HB2 := Lib.hid (below_alloc (Below.refl wr.heap.size wr) (.cells #[.string p.r, .int .u64 p.n, .string p.k] 79))
      have d0 : (wr.alloc (.cells #[.string p.r, .int .u64 p.n, .string p.k] 79)).cell? ⟨wr.heap.size, 0, none⟩ = some (.string p.r) := by go_simp
      have d1 : (wr.alloc (.cells #[.string p.r, .int .u64 p.n, .string p.k] 79)).cell? ⟨wr.heap.size, 1, none⟩ = some (.int .u64 p.n) := by go_simp
      have d2 : (wr.alloc (.cells #[.string p.r, .int .u64 p.n, .string p.k] 79)).cell? ⟨wr.heap.size, 2, none⟩ = some (.string p.k) := by go_simp
      have hs : wr.heap.size < (wr.alloc (.cells #[.string p.r, .int .u64 p.n, .string p.k] 79)).heap.size := by simp
      generalize wr.alloc (.cells #[.string p.r, .int .u64 p.n, .string p.k] 79) = W at hB HB2 d0 d1 d2 hs ⊢
      clear c0 c1 c2
      cases hsz : sizedK p
      · rw [hsz] at HOK
        have HBF := Lib.hid (HBAD.out (by rw [HOK.out]; rfl))
        clear HBAD HOK
        have HSZ := Lib.hid hsz
        clear hsz
        refine start_ (n := 12) (S := (fun w' => w'.cell? ⟨wr.heap.size, 0, none⟩ = some (.string p.r) ∧ w'.cell? ⟨wr.heap.size, 1, none⟩ = some (.int .u64 p.n) ∧ w'.cell? ⟨wr.heap.size, 2, none⟩ = some (.string p.k))) (ds := []) #[false, false, false, false, false, false, false, false, false, false, false, false] (by kernel_rfl) rfl rfl ⟨by go_simp, by go_simp, by go_simp⟩ (fun hHeld => ?_)
        refine take_ (i := 0) (N := (some 12)) (v := ?_) (a' := ?_) #[true, false, false, false, false, false, false, false, false, false, false, false] rfl rfl (by kernel_rfl) (fun _ _ _ h => h) (Or.inl ⟨by rfl, ?_⟩) hHeld ?_ ?_
        rotate_left
        · rintro w' ⟨s0, s1, s2⟩; go_simp; with_reducible rfl
        rotate_left
        · simp only [Act.put, List.setIfInBounds_toArray, List.set_cons_zero, List.set_cons_succ, i64_w, i32_w]; rfl
        refine one_ (i := 1) (N := (some 13)) #[true, true, false, false, false, false, false, false, false, false, false, false] rfl rfl (by kernel_rfl) (by simp) (fun K hK => ?_)
        refine goes_ Try.func56 (by kernel_rfl) rfl #[.agg #[.string p.r, .int .u64 p.n, .string p.k]] (by rfl) rfl rfl (by (try simp only [List.map_toArray, List.map_cons, List.map_nil]); first | done | rfl) ?_
        refine (sized_any p _).mono ?_
        rw [HSZ.out]
        rintro e w1 ⟨rfl, hb1⟩
        refine ⟨_, rfl, hK.out _ _ ⟨(hb1.cell (p := ⟨wr.heap.size, 0, none⟩) (by simpa using hs)).trans (by go_simp), (hb1.cell (p := ⟨wr.heap.size, 1, none⟩) (by simpa using hs)).trans (by go_simp), (hb1.cell (p := ⟨wr.heap.size, 2, none⟩) (by simpa using hs)).trans (by go_simp)⟩ (fun hHeld => ?_)⟩
        clear hK K
        refine pure_ (i := 2) (N := (some 14)) (v := ?_) (a' := ?_) #[true, true, true, false, false, false, false, false, false, false, false, false] rfl rfl (by kernel_rfl) (fun _ _ _ h => h) (Or.inl ⟨by rfl, ?_⟩) ?_ ?_
        rotate_left
        · intro w'; go_simp; with_reducible rfl
        rotate_left
        · simp only [Act.put, List.setIfInBounds_toArray, List.set_cons_zero, List.set_cons_succ, i64_w, i32_w]; rfl
        refine pure_ (i := 3) (N := (some 15)) (v := ?_) (a' := ?_) #[true, true, true, true, false, false, false, false, false, false, false, false] rfl rfl (by kernel_rfl) (fun _ _ _ h => h) (Or.inl ⟨by rfl, ?_⟩) ?_ ?_
        rotate_left
        · intro w'; go_simp; with_reducible rfl
        rotate_left
        · simp only [Act.put, List.setIfInBounds_toArray, List.set_cons_zero, List.set_cons_succ, i64_w, i32_w]; rfl
        refine pure_ (i := 4) (N := (some 16)) (v := undef) #[true, true, true, true, true, false, false, false, false, false, false, false] rfl rfl (by kernel_rfl) (fun _ _ _ h => h) (Or.inr ⟨by rfl, rfl⟩) rfl ?_
        refine pure_ (i := 5) (N := (some 17)) (v := undef) #[true, true, true, true, true, true, false, false, false, false, false, false] rfl rfl (by kernel_rfl) (fun _ _ _ h => h) (Or.inr ⟨by rfl, rfl⟩) rfl ?_
        refine pure_ (i := 6) (N := (some 18)) (v := undef) #[true, true, true, true, true, true, true, false, false, false, false, false] rfl rfl (by kernel_rfl) (fun _ _ _ h => h) (Or.inr ⟨by rfl, rfl⟩) rfl ?_
        refine pure_ (i := 7) (N := (some 19)) (v := undef) #[true, true, true, true, true, true, true, true, false, false, false, false] rfl rfl (by kernel_rfl) (fun _ _ _ h => h) (Or.inr ⟨by rfl, rfl⟩) rfl ?_
        refine pure_ (i := 8) (N := (some 20)) (v := undef) #[true, true, true, true, true, true, true, true, true, false, false, false] rfl rfl (by kernel_rfl) (fun _ _ _ h => h) (Or.inr ⟨by rfl, rfl⟩) rfl ?_
        refine pure_ (i := 9) (N := (some 21)) (v := undef) #[true, true, true, true, true, true, true, true, true, true, false, false] rfl rfl (by kernel_rfl) (fun _ _ _ h => h) (Or.inr ⟨by rfl, rfl⟩) rfl ?_
        refine pure_ (i := 10) (N := (some 22)) (v := undef) #[true, true, true, true, true, true, true, true, true, true, true, false] rfl rfl (by kernel_rfl) (fun _ _ _ h => h) (Or.inr ⟨by rfl, rfl⟩) rfl ?_
        refine pure_ (i := 11) (N := (some 23)) (v := ?_) (a' := ?_) #[true, true, true, true, true, true, true, true, true, true, true, true] rfl rfl (by kernel_rfl) (fun _ _ _ h => h) (Or.inl ⟨by rfl, ?_⟩) ?_ ?_
        rotate_left
        · intro w'; go_simp; with_reducible rfl
        rotate_left
        · simp only [Act.put, List.setIfInBounds_toArray, List.set_cons_zero, List.set_cons_succ, i64_w, i32_w]; rfl
        refine done_ (by kernel_rfl) ?_
        go_wp2
        go_ret
        exact ⟨ret_congr (by rw [HBF.out]; rfl), below_step (below_drew hB.out) hb1⟩
      · rw [hsz, Bool.true_and] at HOK
        have HSZ := Lib.hid hsz
        clear hsz
        have HCk := Lib.hid (C_take HC.out k (by omega))
        go_region_held3 (fun w' => w'.cell? ⟨wr.heap.size, 0, none⟩ = some (.string p.r) ∧ w'.cell? ⟨wr.heap.size, 1, none⟩ = some (.int .u64 p.n) ∧ w'.cell? ⟨wr.heap.size, 2, none⟩ = some (.string p.k))
          (first | go_keep | exact keep3 hb3 (by assumption) | exact keep3 hb2 (by assumption) | exact keep3 hb1 (by assumption))
          (first | (go_at_call 56; refine (sized_any p _).mono ?_; rw [HSZ.out]; rintro e w1 ⟨rfl, hb1⟩) | (go_at_call 58; refine (of_any p _).mono ?_; rintro e w2 ⟨rfl, hb2⟩) | (go_at_call 57; refine (place_any (some ad) k c _ p.r p.n _ (Kd.C_below HCk.out (below_step (below_step (below_drew hB.out) hb1) hb2))).mono ?_; rw [HAT.out]; rintro e w3 ⟨rfl, hb3⟩))
        by_cases hneg : at_ < 0
        · have HO := Lib.hid (show okAt xs k = true by rw [HOK.out]; exact decide_eq_true hneg)
          go_wp2
          refine ⟨⟨k + 1, by omega, by go_num, ⟨fun j hj => ?_⟩, ⟨below_step (below_step (below_step (below_drew hB.out) hb1) hb2) hb3⟩⟩, by simp [intOf]; omega⟩
          by_cases e : j = k
          · rw [e]; exact HO.out
          · exact HN.out j (by omega)
        · have HBF := Lib.hid (HBAD.out (by rw [HOK.out]; exact decide_eq_false hneg))
          go_wp2
          go_ret
          exact ⟨ret_congr (by rw [HBF.out]; rfl), below_step (below_step (below_step (below_drew hB.out) hb1) hb2) hb3⟩
    · have e : k = n := by omega
      subst e
      have HV : Hid (rightK xs = decide ((k : Int) ≤ 20)) := by
        show _ = _
        unfold rightK
        rw [show (List.range xs.length).all (okAt xs) = true from List.all_eq_true.2 fun j hj => HN.out j (by have := List.mem_range.1 hj; rw [HL.out] at this; exact this), HL.out, Bool.true_and, decide_eq_decide]
        omega
      go_wp2
      go_ret
      exact ⟨ret_congr (by rw [HV.out]; rfl), HB.out⟩
end Go.Proofs.Ytfghjahmnjghgaa.Sk

set_option linter.unusedSimpArgs false
set_option linter.unusedVariables false
/- LAYER 13: whether a session may be. -/
namespace Go.Proofs.Ytfghjahmnjghgaa
open Go.RowKit Go.Proofs.YtfghjahmnjghgaaW.PrintWords
structure SesD where
  ow : ByteArray
  pe : ByteArray
  ro : ByteArray
  se : ByteArray
  re : ByteArray
  st : Nat
  gt : Nat
  pv : Nat
  kept : List Sk.KeptD
  used : List ByteArray
def sesC (s : SesD) (k u : Value) : Array Value := #[.string s.ow, .string s.pe, .string s.ro, .string s.se, .string s.re, .int .u64 (s.st : Int), .int .u64 (s.gt : Int), .int .u64 (s.pv : Int), k, u]
def sesV (s : SesD) (k u : Value) : Value := .agg (sesC s k u)
def noneB (s : ByteArray) : Bool := s.size == 0
def sizB (s : ByteArray) : Bool := s.size == 32
/-- an odd one of them is found -/
def openB (s : ByteArray) : Bool := sizB s || noneB s
def rightS (s : SesD) : Bool :=
  openB s.pe && openB s.se && openB s.re && sizB s.ow && sizB s.ro && (noneB s.pe == (noneB s.re && noneB s.se)) && Sk.rightK s.kept && decide (s.used.length ≤ 40) && !(oddL s.used) && decide (max (max s.st s.gt) s.pv < 4294967296)
attribute [local irreducible] Calls
theorem siz_any (s : ByteArray) (w : World) : Calls Try.prog 48 #[.string s] w fun e w' => e = .returned (.bool (sizB s)) ∧ w' = w := by
  have e1 : ((s.size : Int) == 32) = sizB s := by unfold sizB; rw [Bool.eq_iff_iff, beq_iff_eq, beq_iff_eq]; omega
  go_enter Try.func48, Try.ntmps48
  go_wp2
  go_ret
  exact ⟨by first | rfl | rw [← e1] | (rw [← e1]; rfl), rfl⟩
theorem none_iff (s : ByteArray) : s.toList = [] ↔ s.size = 0 := by
  rw [ByteArray.toList_eq, ← Array.toList_empty, Array.toList_inj]
  exact ⟨fun h => by rw [ByteArray.size, h]; rfl, fun h => Array.eq_empty_of_size_eq_zero h⟩
theorem none_any (s : ByteArray) (w : World) : Calls Try.prog 49 #[.string s] w fun e w' => e = .returned (.bool (noneB s)) ∧ w' = w := by
  have e1 : (s.toList == []) = noneB s := by unfold noneB; rw [Bool.eq_iff_iff, beq_iff_eq, beq_iff_eq]; exact none_iff s
  have e2 : s.toList.isEmpty = noneB s := by rw [← e1]; cases s.toList <;> rfl
  go_enter Try.func49, Try.ntmps49
  go_wp2
  go_ret
  exact ⟨by first | rfl | rw [← e1] | (rw [← e1]; rfl) | rw [← e2] | (rw [← e2]; rfl), rfl⟩
theorem sodd_any (s : ByteArray) (w : World) : Calls Try.prog 50 #[.string s] w fun e w' => e = .returned (.bool (!(s.size == 32))) ∧ w' = w := by
  have HS := Lib.hid (fun w1 => siz_any s w1)
  unfold sizB at HS
  generalize (s.size == 32) = b at *
  go_enter Try.func50, Try.ntmps50
  go_wp2_with fail
  refine (HS.out _).mono ?_
  rintro e w1 ⟨rfl, rfl⟩
  go_wp2
  go_ret
  exact ⟨rfl, rfl⟩
set_option maxHeartbeats 4000000 in
set_option maxRecDepth 100000 in
theorem SIndexFunc_any (A : Option Addr) (n c : Nat) (ks : List ByteArray) (w : World) (hC : Kd.string.C w A n ks) (hn : n ≤ 1000000) :
    Calls Try.prog 46 #[.slice A n c, .func (.func 50) #[] #[]] w fun e w' => (∃ i : Int, e = .returned (.int .i64 i) ∧ decide (0 ≤ i) = oddL ks) ∧ w' = w := by
  have hl := hC.1
  go_enter Try.func46, Try.ntmps46
  go_wp2_with fail
  go_loopw [8] (fun c8 wr => ∃ i : Nat, c8 = .int .i64 (i : Int) ∧ Aside0 (i ≤ n ∧ oddL (ks.take i) = false) ∧ wr = w) (fun c8 _ => n - (intOf c8).toNat)
  case atStart => exact ⟨0, rfl, ⟨by omega, rfl⟩, rfl⟩
  case round =>
    obtain ⟨i, rfl, hrel, rfl⟩ := hrel
    obtain ⟨hi, ho⟩ := hrel.out
    clear hrel
    by_cases hlt : i < n
    · have i1 : (i : Int) < (n : Int) := by omega
      have i0 : (0 : Int) ≤ (i : Int) := by omega
      obtain ⟨bk, of, rfl, hcell, _⟩ := C_plF hC (by omega)
      obtain ⟨x, hx⟩ : ∃ x, ks[i]? = some x := ⟨_, List.getElem?_eq_getElem (by omega)⟩
      have c0 := hcell i x hx
      by_cases hq : x.size = 32
      · have ho' := Lib.hid (show oddL (ks.take (i + 1)) = false by
          rw [List.take_add_one, hx]
          unfold oddL at *
          rw [List.any_append, ho]
          simp [hq])
        have hb : (x.size == 32) = true := by rw [beq_iff_eq]; exact hq
        have HI := Lib.hid (show i + 1 ≤ n by omega)
        clear hx hq ho hcell
        go_wp2_with fail
        refine (sodd_any x _).mono ?_
        rintro e w1 ⟨rfl, rfl⟩
        rw [hb]
        go_wp2
        go_roundw
        case rel => exact ⟨i + 1, by go_num, ⟨HI.out, ho'.out⟩, by first | rfl | trivial⟩
        case measure => simp [intOf]; omega
      · have hall := Lib.hid (show oddL ks = true by
          unfold oddL
          rw [List.any_eq_true]
          exact ⟨x, List.mem_of_getElem? hx, by simp [hq]⟩)
        have hb : (x.size == 32) = false := by rw [beq_eq_false_iff_ne]; exact hq
        clear hx hq ho hcell
        go_wp2_with fail
        refine (sodd_any x _).mono ?_
        rintro e w1 ⟨rfl, rfl⟩
        rw [hb]
        go_wp2
        go_ret
        exact ⟨⟨_, rfl, by rw [hall.out]; exact decide_eq_true i0⟩, rfl⟩
    · have hge : ¬ ((i : Int) < (n : Int)) := by omega
      have hall : oddL ks = false := by rw [List.take_of_length_le (by omega)] at ho; exact ho
      go_wp2
      go_ret
      exact ⟨⟨_, rfl, by first | (rw [hall]; rfl) | decide⟩, rfl⟩
set_option maxHeartbeats 1000000 in
theorem SContainsFunc_any (A : Option Addr) (n c : Nat) (ks : List ByteArray) (w : World) (hC : Kd.string.C w A n ks) (hn : n ≤ 1000000) :
    Calls Try.prog 29 #[.slice A n c, .func (.func 50) #[] #[]] w fun e w' => e = .returned (.bool (oddL ks)) ∧ w' = w := by
  have HI := Lib.hid (SIndexFunc_any A n c ks w hC hn)
  go_enter Try.func29, Try.ntmps29
  go_wp2_with fail
  refine HI.out.mono ?_
  rintro e w1 ⟨⟨i, rfl, hi⟩, rfl⟩
  have HH := Lib.hid hi
  clear hi
  go_wp2
  go_ret
  exact ⟨by rw [← HH.out]; rfl, rfl⟩
end Go.Proofs.Ytfghjahmnjghgaa

set_option linter.unusedSimpArgs false
set_option linter.unusedVariables false
/- LAYER 13: session.Right. -/
namespace Go.Proofs.Ytfghjahmnjghgaa
open Go.RowKit Go.Proofs.YtfghjahmnjghgaaW.PrintWords
theorem max3 (a b c : Nat) : (if (if a < b then (b : Int) else (a : Int)) < (c : Int) then (c : Int) else if a < b then (b : Int) else (a : Int)) = max (a : Int) (max (b : Int) (c : Int)) := by
  by_cases h : a < b
  · rw [if_pos h]
    split <;> omega
  · rw [if_neg h]
    split <;> omega
theorem up_same {P : Program} {f : Nat} {xs : Array Value} {w : World} {v : Value} (h : Calls P f xs w fun e w' => e = .returned v ∧ w' = w) : Calls P f xs w fun e w' => e = .returned v ∧ Below w.heap.size w w' :=
  h.mono fun _ _ h => ⟨h.1, by rw [h.2]; exact Below.refl _ _⟩
attribute [local irreducible] Calls
set_option maxHeartbeats 8000000 in
set_option maxRecDepth 100000 in
theorem SRight_any (s : SesD) (K : Option Addr) (kc : Nat) (U : Option Addr) (uc : Nat) (w : World) (hK : Kd.C Sk.kK w K s.kept.length s.kept) (hkc : s.kept.length ≤ kc) (hU : Kd.string.C w U s.used.length s.used) (huc : s.used.length ≤ uc) (hun : s.used.length ≤ 1000000) :
    Calls Try.prog 34 #[sesV s (.slice K s.kept.length kc) (.slice U s.used.length uc)] w fun e w' => e = .returned (.bool (rightS s)) ∧ Below w.heap.size w w' := by
  have HK := Lib.hid (fun w1 (hg : Below w.heap.size w w1) => Sk.Right_any K s.kept.length kc s.kept w1 (Kd.C_below hK hg) hkc)
  have HC := Lib.hid (fun w1 (hg : Below w.heap.size w w1) => up_same (SContainsFunc_any U s.used.length uc s.used w1 (Kd.C_below hU hg) hun))
  have HR := Lib.hid (show rightS s = (openB s.pe && openB s.se && openB s.re && sizB s.ow && sizB s.ro && (noneB s.pe == (noneB s.re && noneB s.se)) && Sk.rightK s.kept && decide (s.used.length ≤ 40) && !(oddL s.used) && decide (max (max s.st s.gt) s.pv < 4294967296)) from rfl)
  clear hK hkc hU huc hun
  generalize rightS s = rr at *
  obtain ⟨ow, pe, ro, se, re, st, gt, pv, kept, used⟩ := s
  unfold sesV sesC
  dsimp only at *
  generalize used.length = un at *
  generalize kept.length = kn at *
  have H0 := Lib.hid (fun w1 => up_same (siz_any ow w1))
  have H1 := Lib.hid (fun w1 => up_same (siz_any ro w1))
  have HP := Lib.hid (fun w1 => up_same (none_any pe w1))
  have HRE := Lib.hid (fun w1 => up_same (none_any re w1))
  have HSE := Lib.hid (fun w1 => up_same (none_any se w1))
  have HsP := Lib.hid (fun w1 => siz_any pe w1)
  have HsR := Lib.hid (fun w1 => siz_any re w1)
  have HsS := Lib.hid (fun w1 => siz_any se w1)
  have HnP := Lib.hid (fun w1 => none_any pe w1)
  have HnR := Lib.hid (fun w1 => none_any re w1)
  have HnS := Lib.hid (fun w1 => none_any se w1)
  unfold openB at HR
  generalize sizB ow = b0 at *
  generalize sizB ro = b1 at *
  generalize sizB pe = zp at *
  generalize sizB re = zr at *
  generalize sizB se = zs at *
  generalize noneB pe = bp at *
  generalize noneB re = br at *
  generalize noneB se = bs at *
  generalize Sk.rightK kept = bk at *
  generalize oddL used = bo at *
  have HO := ((Own.start w).alloc' (.cells #[.string ow, .string pe, .string ro, .string se, .string re, .int .u64 (st : Int), .int .u64 (gt : Int), .int .u64 (pv : Int), .slice K kn kc, .slice U un uc] 36) rfl).alloc' (.cells #[.string pe, .string se, .string re] 9) (by simp : _ = w.heap.size + 1)
  go_enter Try.func34, Try.ntmps34
  have c0 := HO.cell 0 rfl
  go_wp2_with fail
  go_loop [14] (fun i => i = .int .i64 0 ∨ (i = .int .i64 1 ∧ (zp || bp) = true) ∨ (i = .int .i64 2 ∧ (zp || bp) = true ∧ (zs || bs) = true) ∨ (i = .int .i64 3 ∧ (zp || bp) = true ∧ (zs || bs) = true ∧ (zr || br) = true)) (fun i => 3 - (intOf i).toNat)
  case atStart => exact .inl rfl
  case round =>
    rcases hrel with rfl | ⟨rfl, h1⟩ | ⟨rfl, h1, h2⟩ | ⟨rfl, h1, h2, h3⟩
    · have d0 := HO.cell 0 rfl 0
      cases zp
      · cases bp
        · skip
          go_wp2_with fail
          refine (HsP.out _).mono ?_
          rintro e w1 ⟨rfl, rfl⟩
          go_wp2_with fail
          refine (HnP.out _).mono ?_
          rintro e w1 ⟨rfl, rfl⟩
          go_wp2
          go_ret
          exact ⟨ret_congr (by rw [HR.out]; rfl), HO.below⟩
        · skip
          go_wp2_with fail
          refine (HsP.out _).mono ?_
          rintro e w1 ⟨rfl, rfl⟩
          go_wp2_with fail
          refine (HnP.out _).mono ?_
          rintro e w1 ⟨rfl, rfl⟩
          go_wp2
          go_round
          case rel => exact .inr (.inl ⟨rfl, rfl⟩)
          case measure => simp [intOf]
      · skip
        go_wp2_with fail
        refine (HsP.out _).mono ?_
        rintro e w1 ⟨rfl, rfl⟩
        go_wp2
        go_round
        case rel => exact .inr (.inl ⟨rfl, rfl⟩)
        case measure => simp [intOf]
    · have HH := Lib.hid h1
      clear h1
      cases zs
      · cases bs
        · skip
          go_wp2_with fail
          refine (HsS.out _).mono ?_
          rintro e w1 ⟨rfl, rfl⟩
          go_wp2_with fail
          refine (HnS.out _).mono ?_
          rintro e w1 ⟨rfl, rfl⟩
          go_wp2
          go_ret
          exact ⟨ret_congr (by rw [HR.out, HH.out]; rfl), HO.below⟩
        · skip
          go_wp2_with fail
          refine (HsS.out _).mono ?_
          rintro e w1 ⟨rfl, rfl⟩
          go_wp2_with fail
          refine (HnS.out _).mono ?_
          rintro e w1 ⟨rfl, rfl⟩
          go_wp2
          go_round
          case rel => exact .inr (.inr (.inl ⟨rfl, HH.out, rfl⟩))
          case measure => simp [intOf]
      · skip
        go_wp2_with fail
        refine (HsS.out _).mono ?_
        rintro e w1 ⟨rfl, rfl⟩
        go_wp2
        go_round
        case rel => exact .inr (.inr (.inl ⟨rfl, HH.out, rfl⟩))
        case measure => simp [intOf]
    · have HH := Lib.hid (And.intro h1 h2)
      clear h1 h2
      cases zr
      · cases br
        · skip
          go_wp2_with fail
          refine (HsR.out _).mono ?_
          rintro e w1 ⟨rfl, rfl⟩
          go_wp2_with fail
          refine (HnR.out _).mono ?_
          rintro e w1 ⟨rfl, rfl⟩
          go_wp2
          go_ret
          exact ⟨ret_congr (by rw [HR.out, HH.out.1, HH.out.2]; rfl), HO.below⟩
        · skip
          go_wp2_with fail
          refine (HsR.out _).mono ?_
          rintro e w1 ⟨rfl, rfl⟩
          go_wp2_with fail
          refine (HnR.out _).mono ?_
          rintro e w1 ⟨rfl, rfl⟩
          go_wp2
          go_round
          case rel => exact .inr (.inr (.inr ⟨rfl, HH.out.1, HH.out.2, rfl⟩))
          case measure => simp [intOf]
      · skip
        go_wp2_with fail
        refine (HsR.out _).mono ?_
        rintro e w1 ⟨rfl, rfl⟩
        go_wp2
        go_round
        case rel => exact .inr (.inr (.inr ⟨rfl, HH.out.1, HH.out.2, rfl⟩))
        case measure => simp [intOf]
    · rw [h1, h2, h3, Bool.true_and, Bool.true_and, Bool.true_and] at HR
      clear h1 h2 h3
      go_wp2_with fail
      cases b0
      · skip
        refine kall [(0, true, some 27), (1, true, some 28), (2, true, some 29), (3, true, some 30), (4, true, some 31), (5, true, some 32), (6, true, some 33), (7, true, some 34), (8, true, some 35), (9, true, some 36), (12, true, some 39), (10, true, some 37), (11, true, some 38), (13, true, some 40), (14, true, some 41), (15, true, some 42), (16, true, some 43), (17, true, some 44), (18, true, some 45), (19, true, some 46), (20, true, some 47), (21, true, some 48), (22, true, some 49), (23, true, some 50), (24, true, some 51), (25, true, some 52), (26, true, some 53), (27, true, some 54), (28, true, some 55), (29, true, some 56), (30, true, some 57), (31, true, some 58), (32, true, some 59), (33, true, some 60), (34, true, some 61), (36, true, some 63), (35, true, some 62), (37, true, some 64), (38, true, some 65), (39, true, some 66), (40, true, some 67), (41, true, some 68), (43, true, some 70), (45, true, some 72), (42, true, some 69), (44, true, some 71), (46, true, some 73), (47, true, some 74), (48, true, some 75), (49, true, some 76), (50, true, some 2)] (by kernel_rfl) rfl (by kernel_rfl) rfl (fun _ _ _ _ _ h => h) ?_
        (refine sP (v := ?_) (a' := ?_) rfl rfl (by rfl) ?_ ?_ ?_; rotate_left 2; (· intro w'; go_simp; with_reducible rfl); (· simp only [Act.put, List.setIfInBounds_toArray, List.set_cons_zero, List.set_cons_succ, kw64, kw32]; rfl))
        (refine sB (v := ?_) (a' := ?_) rfl rfl (by rfl) ?_ ?_ ?_; rotate_left 2; (· intro w1 hg; have c9 := (HO.up hg).cell 1 rfl; go_simp; with_reducible rfl); (· simp only [Act.put, List.setIfInBounds_toArray, List.set_cons_zero, List.set_cons_succ, kw64, kw32]; rfl))
        (refine sD (v := ?_) (a' := ?_) Try.func48 rfl rfl (by rfl) rfl (by kernel_rfl) rfl (by rfl) ?_ ?_ ?_; rotate_left 2; (· intro w1 hg; exact H0.out w1); (· simp only [Act.put, List.setIfInBounds_toArray, List.set_cons_zero, List.set_cons_succ, kw64, kw32]; rfl))
        (refine sP (v := ?_) (a' := ?_) rfl rfl (by rfl) ?_ ?_ ?_; rotate_left 2; (· intro w'; go_simp; with_reducible rfl); (· simp only [Act.put, List.setIfInBounds_toArray, List.set_cons_zero, List.set_cons_succ, kw64, kw32]; rfl))
        iterate 3 (refine sO (a' := ?_) rfl rfl (by rfl) ?_ ?_; rotate_left 1; (· simp only [Act.put, List.setIfInBounds_toArray, List.set_cons_zero, List.set_cons_succ, kw64, kw32]; rfl))
        iterate 2 (refine sP (v := ?_) (a' := ?_) rfl rfl (by rfl) ?_ ?_ ?_; rotate_left 2; (· intro w'; go_simp; with_reducible rfl); (· simp only [Act.put, List.setIfInBounds_toArray, List.set_cons_zero, List.set_cons_succ, kw64, kw32]; rfl))
        iterate 12 (refine sO (a' := ?_) rfl rfl (by rfl) ?_ ?_; rotate_left 1; (· simp only [Act.put, List.setIfInBounds_toArray, List.set_cons_zero, List.set_cons_succ, kw64, kw32]; rfl))
        iterate 2 (refine sP (v := ?_) (a' := ?_) rfl rfl (by rfl) ?_ ?_ ?_; rotate_left 2; (· intro w'; go_simp; with_reducible rfl); (· simp only [Act.put, List.setIfInBounds_toArray, List.set_cons_zero, List.set_cons_succ, kw64, kw32]; rfl))
        iterate 3 (refine sO (a' := ?_) rfl rfl (by rfl) ?_ ?_; rotate_left 1; (· simp only [Act.put, List.setIfInBounds_toArray, List.set_cons_zero, List.set_cons_succ, kw64, kw32]; rfl))
        iterate 2 (refine sP (v := ?_) (a' := ?_) rfl rfl (by rfl) ?_ ?_ ?_; rotate_left 2; (· intro w'; go_simp; with_reducible rfl); (· simp only [Act.put, List.setIfInBounds_toArray, List.set_cons_zero, List.set_cons_succ, kw64, kw32]; rfl))
        iterate 4 (refine sO (a' := ?_) rfl rfl (by rfl) ?_ ?_; rotate_left 1; (· simp only [Act.put, List.setIfInBounds_toArray, List.set_cons_zero, List.set_cons_succ, kw64, kw32]; rfl))
        iterate 2 (refine sP (v := ?_) (a' := ?_) rfl rfl (by rfl) ?_ ?_ ?_; rotate_left 2; (· intro w'; go_simp; with_reducible rfl); (· simp only [Act.put, List.setIfInBounds_toArray, List.set_cons_zero, List.set_cons_succ, kw64, kw32]; rfl))
        iterate 5 (refine sO (a' := ?_) rfl rfl (by rfl) ?_ ?_; rotate_left 1; (· simp only [Act.put, List.setIfInBounds_toArray, List.set_cons_zero, List.set_cons_succ, kw64, kw32]; rfl))
        iterate 2 (refine sP (v := ?_) (a' := ?_) rfl rfl (by rfl) ?_ ?_ ?_; rotate_left 2; (· intro w'; go_simp; with_reducible rfl); (· simp only [Act.put, List.setIfInBounds_toArray, List.set_cons_zero, List.set_cons_succ, kw64, kw32]; rfl))
        iterate 8 (refine sO (a' := ?_) rfl rfl (by rfl) ?_ ?_; rotate_left 1; (· simp only [Act.put, List.setIfInBounds_toArray, List.set_cons_zero, List.set_cons_succ, kw64, kw32]; rfl))
        iterate 2 (refine sP (v := ?_) (a' := ?_) rfl rfl (by rfl) ?_ ?_ ?_; rotate_left 2; (· intro w'; go_simp; with_reducible rfl); (· simp only [Act.put, List.setIfInBounds_toArray, List.set_cons_zero, List.set_cons_succ, kw64, kw32]; rfl))
        intro w1 hg
        replace HO := HO.up hg
        clear hg
        go_wp2
        go_ret
        exact ⟨ret_congr (by rw [HR.out]; rfl), HO.below⟩
      · cases b1
        · skip
          refine kall [(0, true, some 27), (1, true, some 28), (2, true, some 29), (3, true, some 30), (4, true, some 31), (5, true, some 32), (6, true, some 33), (7, true, some 34), (8, true, some 35), (9, true, some 36), (12, true, some 39), (10, true, some 37), (11, true, some 38), (13, true, some 40), (14, true, some 41), (15, true, some 42), (16, true, some 43), (17, true, some 44), (18, true, some 45), (19, true, some 46), (20, true, some 47), (21, true, some 48), (22, true, some 49), (23, true, some 50), (24, true, some 51), (25, true, some 52), (26, true, some 53), (27, true, some 54), (28, true, some 55), (29, true, some 56), (30, true, some 57), (31, true, some 58), (32, true, some 59), (33, true, some 60), (34, true, some 61), (36, true, some 63), (35, true, some 62), (37, true, some 64), (38, true, some 65), (39, true, some 66), (40, true, some 67), (41, true, some 68), (43, true, some 70), (45, true, some 72), (42, true, some 69), (44, true, some 71), (46, true, some 73), (47, true, some 74), (48, true, some 75), (49, true, some 76), (50, true, some 2)] (by kernel_rfl) rfl (by kernel_rfl) rfl (fun _ _ _ _ _ h => h) ?_
          (refine sP (v := ?_) (a' := ?_) rfl rfl (by rfl) ?_ ?_ ?_; rotate_left 2; (· intro w'; go_simp; with_reducible rfl); (· simp only [Act.put, List.setIfInBounds_toArray, List.set_cons_zero, List.set_cons_succ, kw64, kw32]; rfl))
          (refine sB (v := ?_) (a' := ?_) rfl rfl (by rfl) ?_ ?_ ?_; rotate_left 2; (· intro w1 hg; have c9 := (HO.up hg).cell 1 rfl; go_simp; with_reducible rfl); (· simp only [Act.put, List.setIfInBounds_toArray, List.set_cons_zero, List.set_cons_succ, kw64, kw32]; rfl))
          (refine sD (v := ?_) (a' := ?_) Try.func48 rfl rfl (by rfl) rfl (by kernel_rfl) rfl (by rfl) ?_ ?_ ?_; rotate_left 2; (· intro w1 hg; exact H0.out w1); (· simp only [Act.put, List.setIfInBounds_toArray, List.set_cons_zero, List.set_cons_succ, kw64, kw32]; rfl))
          iterate 2 (refine sP (v := ?_) (a' := ?_) rfl rfl (by rfl) ?_ ?_ ?_; rotate_left 2; (· intro w'; go_simp; with_reducible rfl); (· simp only [Act.put, List.setIfInBounds_toArray, List.set_cons_zero, List.set_cons_succ, kw64, kw32]; rfl))
          (refine sB (v := ?_) (a' := ?_) rfl rfl (by rfl) ?_ ?_ ?_; rotate_left 2; (· intro w1 hg; have c9 := (HO.up hg).cell 1 rfl; go_simp; with_reducible rfl); (· simp only [Act.put, List.setIfInBounds_toArray, List.set_cons_zero, List.set_cons_succ, kw64, kw32]; rfl))
          (refine sD (v := ?_) (a' := ?_) Try.func48 rfl rfl (by rfl) rfl (by kernel_rfl) rfl (by rfl) ?_ ?_ ?_; rotate_left 2; (· intro w1 hg; exact H1.out w1); (· simp only [Act.put, List.setIfInBounds_toArray, List.set_cons_zero, List.set_cons_succ, kw64, kw32]; rfl))
          iterate 2 (refine sP (v := ?_) (a' := ?_) rfl rfl (by rfl) ?_ ?_ ?_; rotate_left 2; (· intro w'; go_simp; with_reducible rfl); (· simp only [Act.put, List.setIfInBounds_toArray, List.set_cons_zero, List.set_cons_succ, kw64, kw32]; rfl))
          iterate 12 (refine sO (a' := ?_) rfl rfl (by rfl) ?_ ?_; rotate_left 1; (· simp only [Act.put, List.setIfInBounds_toArray, List.set_cons_zero, List.set_cons_succ, kw64, kw32]; rfl))
          iterate 2 (refine sP (v := ?_) (a' := ?_) rfl rfl (by rfl) ?_ ?_ ?_; rotate_left 2; (· intro w'; go_simp; with_reducible rfl); (· simp only [Act.put, List.setIfInBounds_toArray, List.set_cons_zero, List.set_cons_succ, kw64, kw32]; rfl))
          iterate 3 (refine sO (a' := ?_) rfl rfl (by rfl) ?_ ?_; rotate_left 1; (· simp only [Act.put, List.setIfInBounds_toArray, List.set_cons_zero, List.set_cons_succ, kw64, kw32]; rfl))
          iterate 2 (refine sP (v := ?_) (a' := ?_) rfl rfl (by rfl) ?_ ?_ ?_; rotate_left 2; (· intro w'; go_simp; with_reducible rfl); (· simp only [Act.put, List.setIfInBounds_toArray, List.set_cons_zero, List.set_cons_succ, kw64, kw32]; rfl))
          iterate 4 (refine sO (a' := ?_) rfl rfl (by rfl) ?_ ?_; rotate_left 1; (· simp only [Act.put, List.setIfInBounds_toArray, List.set_cons_zero, List.set_cons_succ, kw64, kw32]; rfl))
          iterate 2 (refine sP (v := ?_) (a' := ?_) rfl rfl (by rfl) ?_ ?_ ?_; rotate_left 2; (· intro w'; go_simp; with_reducible rfl); (· simp only [Act.put, List.setIfInBounds_toArray, List.set_cons_zero, List.set_cons_succ, kw64, kw32]; rfl))
          iterate 5 (refine sO (a' := ?_) rfl rfl (by rfl) ?_ ?_; rotate_left 1; (· simp only [Act.put, List.setIfInBounds_toArray, List.set_cons_zero, List.set_cons_succ, kw64, kw32]; rfl))
          iterate 2 (refine sP (v := ?_) (a' := ?_) rfl rfl (by rfl) ?_ ?_ ?_; rotate_left 2; (· intro w'; go_simp; with_reducible rfl); (· simp only [Act.put, List.setIfInBounds_toArray, List.set_cons_zero, List.set_cons_succ, kw64, kw32]; rfl))
          iterate 8 (refine sO (a' := ?_) rfl rfl (by rfl) ?_ ?_; rotate_left 1; (· simp only [Act.put, List.setIfInBounds_toArray, List.set_cons_zero, List.set_cons_succ, kw64, kw32]; rfl))
          iterate 2 (refine sP (v := ?_) (a' := ?_) rfl rfl (by rfl) ?_ ?_ ?_; rotate_left 2; (· intro w'; go_simp; with_reducible rfl); (· simp only [Act.put, List.setIfInBounds_toArray, List.set_cons_zero, List.set_cons_succ, kw64, kw32]; rfl))
          intro w1 hg
          replace HO := HO.up hg
          clear hg
          go_wp2
          go_ret
          exact ⟨ret_congr (by rw [HR.out]; rfl), HO.below⟩
        · rw [Bool.true_and] at HR
          cases br
          · obtain ⟨be, hbe⟩ : ∃ b, (bp == (false && bs)) = b := ⟨_, rfl⟩
            rw [hbe] at HR
            rw [Bool.false_and] at hbe
            have HE := Lib.hid hbe
            clear hbe
            cases be
            · skip
              refine kall [(0, true, some 27), (1, true, some 28), (2, true, some 29), (3, true, some 30), (4, true, some 31), (5, true, some 32), (6, true, some 33), (7, true, some 34), (8, true, some 35), (9, true, some 36), (12, true, some 39), (10, true, some 37), (11, true, some 38), (13, true, some 40), (14, true, some 41), (15, true, some 42), (16, true, some 43), (17, true, some 44), (18, true, some 45), (19, true, some 46), (20, true, some 47), (21, true, some 48), (22, true, some 49), (23, true, some 50), (24, true, some 51), (25, true, some 52), (26, true, some 53), (27, true, some 54), (28, true, some 55), (29, true, some 56), (30, true, some 57), (31, true, some 58), (32, true, some 59), (33, true, some 60), (34, true, some 61), (36, true, some 63), (35, true, some 62), (37, true, some 64), (38, true, some 65), (39, true, some 66), (40, true, some 67), (41, true, some 68), (43, true, some 70), (45, true, some 72), (42, true, some 69), (44, true, some 71), (46, true, some 73), (47, true, some 74), (48, true, some 75), (49, true, some 76), (50, true, some 2)] (by kernel_rfl) rfl (by kernel_rfl) rfl (fun _ _ _ _ _ h => h) ?_
              (refine sP (v := ?_) (a' := ?_) rfl rfl (by rfl) ?_ ?_ ?_; rotate_left 2; (· intro w'; go_simp; with_reducible rfl); (· simp only [Act.put, List.setIfInBounds_toArray, List.set_cons_zero, List.set_cons_succ, kw64, kw32]; rfl))
              (refine sB (v := ?_) (a' := ?_) rfl rfl (by rfl) ?_ ?_ ?_; rotate_left 2; (· intro w1 hg; have c9 := (HO.up hg).cell 1 rfl; go_simp; with_reducible rfl); (· simp only [Act.put, List.setIfInBounds_toArray, List.set_cons_zero, List.set_cons_succ, kw64, kw32]; rfl))
              (refine sD (v := ?_) (a' := ?_) Try.func48 rfl rfl (by rfl) rfl (by kernel_rfl) rfl (by rfl) ?_ ?_ ?_; rotate_left 2; (· intro w1 hg; exact H0.out w1); (· simp only [Act.put, List.setIfInBounds_toArray, List.set_cons_zero, List.set_cons_succ, kw64, kw32]; rfl))
              iterate 2 (refine sP (v := ?_) (a' := ?_) rfl rfl (by rfl) ?_ ?_ ?_; rotate_left 2; (· intro w'; go_simp; with_reducible rfl); (· simp only [Act.put, List.setIfInBounds_toArray, List.set_cons_zero, List.set_cons_succ, kw64, kw32]; rfl))
              (refine sB (v := ?_) (a' := ?_) rfl rfl (by rfl) ?_ ?_ ?_; rotate_left 2; (· intro w1 hg; have c9 := (HO.up hg).cell 1 rfl; go_simp; with_reducible rfl); (· simp only [Act.put, List.setIfInBounds_toArray, List.set_cons_zero, List.set_cons_succ, kw64, kw32]; rfl))
              (refine sD (v := ?_) (a' := ?_) Try.func48 rfl rfl (by rfl) rfl (by kernel_rfl) rfl (by rfl) ?_ ?_ ?_; rotate_left 2; (· intro w1 hg; exact H1.out w1); (· simp only [Act.put, List.setIfInBounds_toArray, List.set_cons_zero, List.set_cons_succ, kw64, kw32]; rfl))
              iterate 4 (refine sP (v := ?_) (a' := ?_) rfl rfl (by rfl) ?_ ?_ ?_; rotate_left 2; (· intro w'; go_simp; with_reducible rfl); (· simp only [Act.put, List.setIfInBounds_toArray, List.set_cons_zero, List.set_cons_succ, kw64, kw32]; rfl))
              (refine sB (v := ?_) (a' := ?_) rfl rfl (by rfl) ?_ ?_ ?_; rotate_left 2; (· intro w1 hg; have c9 := (HO.up hg).cell 1 rfl; go_simp; with_reducible rfl); (· simp only [Act.put, List.setIfInBounds_toArray, List.set_cons_zero, List.set_cons_succ, kw64, kw32]; rfl))
              (refine sD (v := ?_) (a' := ?_) Try.func49 rfl rfl (by rfl) rfl (by kernel_rfl) rfl (by rfl) ?_ ?_ ?_; rotate_left 2; (· intro w1 hg; exact HP.out w1); (· simp only [Act.put, List.setIfInBounds_toArray, List.set_cons_zero, List.set_cons_succ, kw64, kw32]; rfl))
              (refine sB (v := ?_) (a' := ?_) rfl rfl (by rfl) ?_ ?_ ?_; rotate_left 2; (· intro w1 hg; have c9 := (HO.up hg).cell 1 rfl; go_simp; with_reducible rfl); (· simp only [Act.put, List.setIfInBounds_toArray, List.set_cons_zero, List.set_cons_succ, kw64, kw32]; rfl))
              (refine sD (v := ?_) (a' := ?_) Try.func49 rfl rfl (by rfl) rfl (by kernel_rfl) rfl (by rfl) ?_ ?_ ?_; rotate_left 2; (· intro w1 hg; exact HRE.out w1); (· simp only [Act.put, List.setIfInBounds_toArray, List.set_cons_zero, List.set_cons_succ, kw64, kw32]; rfl))
              (refine sP (v := ?_) (a' := ?_) rfl rfl (by rfl) ?_ ?_ ?_; rotate_left 2; (· intro w'; go_simp; with_reducible rfl); (· simp only [Act.put, List.setIfInBounds_toArray, List.set_cons_zero, List.set_cons_succ, kw64, kw32]; rfl))
              iterate 3 (refine sO (a' := ?_) rfl rfl (by rfl) ?_ ?_; rotate_left 1; (· simp only [Act.put, List.setIfInBounds_toArray, List.set_cons_zero, List.set_cons_succ, kw64, kw32]; rfl))
              (refine sP (v := ?_) (a' := ?_) rfl rfl (by rfl) ?_ ?_ ?_; rotate_left 2; (· intro w'; go_simp; with_reducible rfl); (· simp only [Act.put, List.setIfInBounds_toArray, List.set_cons_zero, List.set_cons_succ, kw64, kw32]; rfl))
              (refine sP (v := .bool false) (a' := ?_) rfl rfl (by rfl) ?_ ?_ ?_; rotate_left 1; (· intro w'; go_simp; first | done | rw [HE.out] | simpa using HE.out); (· simp only [Act.put, List.setIfInBounds_toArray, List.set_cons_zero, List.set_cons_succ, kw64, kw32]; rfl))
              iterate 2 (refine sP (v := ?_) (a' := ?_) rfl rfl (by rfl) ?_ ?_ ?_; rotate_left 2; (· intro w'; go_simp; with_reducible rfl); (· simp only [Act.put, List.setIfInBounds_toArray, List.set_cons_zero, List.set_cons_succ, kw64, kw32]; rfl))
              iterate 3 (refine sO (a' := ?_) rfl rfl (by rfl) ?_ ?_; rotate_left 1; (· simp only [Act.put, List.setIfInBounds_toArray, List.set_cons_zero, List.set_cons_succ, kw64, kw32]; rfl))
              iterate 2 (refine sP (v := ?_) (a' := ?_) rfl rfl (by rfl) ?_ ?_ ?_; rotate_left 2; (· intro w'; go_simp; with_reducible rfl); (· simp only [Act.put, List.setIfInBounds_toArray, List.set_cons_zero, List.set_cons_succ, kw64, kw32]; rfl))
              iterate 4 (refine sO (a' := ?_) rfl rfl (by rfl) ?_ ?_; rotate_left 1; (· simp only [Act.put, List.setIfInBounds_toArray, List.set_cons_zero, List.set_cons_succ, kw64, kw32]; rfl))
              iterate 2 (refine sP (v := ?_) (a' := ?_) rfl rfl (by rfl) ?_ ?_ ?_; rotate_left 2; (· intro w'; go_simp; with_reducible rfl); (· simp only [Act.put, List.setIfInBounds_toArray, List.set_cons_zero, List.set_cons_succ, kw64, kw32]; rfl))
              iterate 5 (refine sO (a' := ?_) rfl rfl (by rfl) ?_ ?_; rotate_left 1; (· simp only [Act.put, List.setIfInBounds_toArray, List.set_cons_zero, List.set_cons_succ, kw64, kw32]; rfl))
              iterate 2 (refine sP (v := ?_) (a' := ?_) rfl rfl (by rfl) ?_ ?_ ?_; rotate_left 2; (· intro w'; go_simp; with_reducible rfl); (· simp only [Act.put, List.setIfInBounds_toArray, List.set_cons_zero, List.set_cons_succ, kw64, kw32]; rfl))
              iterate 8 (refine sO (a' := ?_) rfl rfl (by rfl) ?_ ?_; rotate_left 1; (· simp only [Act.put, List.setIfInBounds_toArray, List.set_cons_zero, List.set_cons_succ, kw64, kw32]; rfl))
              iterate 2 (refine sP (v := ?_) (a' := ?_) rfl rfl (by rfl) ?_ ?_ ?_; rotate_left 2; (· intro w'; go_simp; with_reducible rfl); (· simp only [Act.put, List.setIfInBounds_toArray, List.set_cons_zero, List.set_cons_succ, kw64, kw32]; rfl))
              intro w1 hg
              replace HO := HO.up hg
              clear hg
              go_wp2
              go_ret
              exact ⟨ret_congr (by rw [HR.out]; rfl), HO.below⟩
            · cases bk
              · skip
                refine kall [(0, true, some 27), (1, true, some 28), (2, true, some 29), (3, true, some 30), (4, true, some 31), (5, true, some 32), (6, true, some 33), (7, true, some 34), (8, true, some 35), (9, true, some 36), (12, true, some 39), (10, true, some 37), (11, true, some 38), (13, true, some 40), (14, true, some 41), (15, true, some 42), (16, true, some 43), (17, true, some 44), (18, true, some 45), (19, true, some 46), (20, true, some 47), (21, true, some 48), (22, true, some 49), (23, true, some 50), (24, true, some 51), (25, true, some 52), (26, true, some 53), (27, true, some 54), (28, true, some 55), (29, true, some 56), (30, true, some 57), (31, true, some 58), (32, true, some 59), (33, true, some 60), (34, true, some 61), (36, true, some 63), (35, true, some 62), (37, true, some 64), (38, true, some 65), (39, true, some 66), (40, true, some 67), (41, true, some 68), (43, true, some 70), (45, true, some 72), (42, true, some 69), (44, true, some 71), (46, true, some 73), (47, true, some 74), (48, true, some 75), (49, true, some 76), (50, true, some 2)] (by kernel_rfl) rfl (by kernel_rfl) rfl (fun _ _ _ _ _ h => h) ?_
                (refine sP (v := ?_) (a' := ?_) rfl rfl (by rfl) ?_ ?_ ?_; rotate_left 2; (· intro w'; go_simp; with_reducible rfl); (· simp only [Act.put, List.setIfInBounds_toArray, List.set_cons_zero, List.set_cons_succ, kw64, kw32]; rfl))
                (refine sB (v := ?_) (a' := ?_) rfl rfl (by rfl) ?_ ?_ ?_; rotate_left 2; (· intro w1 hg; have c9 := (HO.up hg).cell 1 rfl; go_simp; with_reducible rfl); (· simp only [Act.put, List.setIfInBounds_toArray, List.set_cons_zero, List.set_cons_succ, kw64, kw32]; rfl))
                (refine sD (v := ?_) (a' := ?_) Try.func48 rfl rfl (by rfl) rfl (by kernel_rfl) rfl (by rfl) ?_ ?_ ?_; rotate_left 2; (· intro w1 hg; exact H0.out w1); (· simp only [Act.put, List.setIfInBounds_toArray, List.set_cons_zero, List.set_cons_succ, kw64, kw32]; rfl))
                iterate 2 (refine sP (v := ?_) (a' := ?_) rfl rfl (by rfl) ?_ ?_ ?_; rotate_left 2; (· intro w'; go_simp; with_reducible rfl); (· simp only [Act.put, List.setIfInBounds_toArray, List.set_cons_zero, List.set_cons_succ, kw64, kw32]; rfl))
                (refine sB (v := ?_) (a' := ?_) rfl rfl (by rfl) ?_ ?_ ?_; rotate_left 2; (· intro w1 hg; have c9 := (HO.up hg).cell 1 rfl; go_simp; with_reducible rfl); (· simp only [Act.put, List.setIfInBounds_toArray, List.set_cons_zero, List.set_cons_succ, kw64, kw32]; rfl))
                (refine sD (v := ?_) (a' := ?_) Try.func48 rfl rfl (by rfl) rfl (by kernel_rfl) rfl (by rfl) ?_ ?_ ?_; rotate_left 2; (· intro w1 hg; exact H1.out w1); (· simp only [Act.put, List.setIfInBounds_toArray, List.set_cons_zero, List.set_cons_succ, kw64, kw32]; rfl))
                iterate 4 (refine sP (v := ?_) (a' := ?_) rfl rfl (by rfl) ?_ ?_ ?_; rotate_left 2; (· intro w'; go_simp; with_reducible rfl); (· simp only [Act.put, List.setIfInBounds_toArray, List.set_cons_zero, List.set_cons_succ, kw64, kw32]; rfl))
                (refine sB (v := ?_) (a' := ?_) rfl rfl (by rfl) ?_ ?_ ?_; rotate_left 2; (· intro w1 hg; have c9 := (HO.up hg).cell 1 rfl; go_simp; with_reducible rfl); (· simp only [Act.put, List.setIfInBounds_toArray, List.set_cons_zero, List.set_cons_succ, kw64, kw32]; rfl))
                (refine sD (v := ?_) (a' := ?_) Try.func49 rfl rfl (by rfl) rfl (by kernel_rfl) rfl (by rfl) ?_ ?_ ?_; rotate_left 2; (· intro w1 hg; exact HP.out w1); (· simp only [Act.put, List.setIfInBounds_toArray, List.set_cons_zero, List.set_cons_succ, kw64, kw32]; rfl))
                (refine sB (v := ?_) (a' := ?_) rfl rfl (by rfl) ?_ ?_ ?_; rotate_left 2; (· intro w1 hg; have c9 := (HO.up hg).cell 1 rfl; go_simp; with_reducible rfl); (· simp only [Act.put, List.setIfInBounds_toArray, List.set_cons_zero, List.set_cons_succ, kw64, kw32]; rfl))
                (refine sD (v := ?_) (a' := ?_) Try.func49 rfl rfl (by rfl) rfl (by kernel_rfl) rfl (by rfl) ?_ ?_ ?_; rotate_left 2; (· intro w1 hg; exact HRE.out w1); (· simp only [Act.put, List.setIfInBounds_toArray, List.set_cons_zero, List.set_cons_succ, kw64, kw32]; rfl))
                (refine sP (v := ?_) (a' := ?_) rfl rfl (by rfl) ?_ ?_ ?_; rotate_left 2; (· intro w'; go_simp; with_reducible rfl); (· simp only [Act.put, List.setIfInBounds_toArray, List.set_cons_zero, List.set_cons_succ, kw64, kw32]; rfl))
                iterate 3 (refine sO (a' := ?_) rfl rfl (by rfl) ?_ ?_; rotate_left 1; (· simp only [Act.put, List.setIfInBounds_toArray, List.set_cons_zero, List.set_cons_succ, kw64, kw32]; rfl))
                (refine sP (v := ?_) (a' := ?_) rfl rfl (by rfl) ?_ ?_ ?_; rotate_left 2; (· intro w'; go_simp; with_reducible rfl); (· simp only [Act.put, List.setIfInBounds_toArray, List.set_cons_zero, List.set_cons_succ, kw64, kw32]; rfl))
                (refine sP (v := .bool true) (a' := ?_) rfl rfl (by rfl) ?_ ?_ ?_; rotate_left 1; (· intro w'; go_simp; first | done | rw [HE.out] | simpa using HE.out); (· simp only [Act.put, List.setIfInBounds_toArray, List.set_cons_zero, List.set_cons_succ, kw64, kw32]; rfl))
                iterate 3 (refine sP (v := ?_) (a' := ?_) rfl rfl (by rfl) ?_ ?_ ?_; rotate_left 2; (· intro w'; go_simp; with_reducible rfl); (· simp only [Act.put, List.setIfInBounds_toArray, List.set_cons_zero, List.set_cons_succ, kw64, kw32]; rfl))
                (refine sB (v := ?_) (a' := ?_) rfl rfl (by rfl) ?_ ?_ ?_; rotate_left 2; (· intro w1 hg; have c9 := (HO.up hg).cell 1 rfl; go_simp; with_reducible rfl); (· simp only [Act.put, List.setIfInBounds_toArray, List.set_cons_zero, List.set_cons_succ, kw64, kw32]; rfl))
                (refine sD (v := ?_) (a' := ?_) Try.func51 rfl rfl (by rfl) rfl (by kernel_rfl) rfl (by rfl) ?_ ?_ ?_; rotate_left 2; (· intro w1 hg; exact HK.out w1 ((HO.up hg).below)); (· simp only [Act.put, List.setIfInBounds_toArray, List.set_cons_zero, List.set_cons_succ, kw64, kw32]; rfl))
                iterate 2 (refine sP (v := ?_) (a' := ?_) rfl rfl (by rfl) ?_ ?_ ?_; rotate_left 2; (· intro w'; go_simp; with_reducible rfl); (· simp only [Act.put, List.setIfInBounds_toArray, List.set_cons_zero, List.set_cons_succ, kw64, kw32]; rfl))
                iterate 4 (refine sO (a' := ?_) rfl rfl (by rfl) ?_ ?_; rotate_left 1; (· simp only [Act.put, List.setIfInBounds_toArray, List.set_cons_zero, List.set_cons_succ, kw64, kw32]; rfl))
                iterate 2 (refine sP (v := ?_) (a' := ?_) rfl rfl (by rfl) ?_ ?_ ?_; rotate_left 2; (· intro w'; go_simp; with_reducible rfl); (· simp only [Act.put, List.setIfInBounds_toArray, List.set_cons_zero, List.set_cons_succ, kw64, kw32]; rfl))
                iterate 5 (refine sO (a' := ?_) rfl rfl (by rfl) ?_ ?_; rotate_left 1; (· simp only [Act.put, List.setIfInBounds_toArray, List.set_cons_zero, List.set_cons_succ, kw64, kw32]; rfl))
                iterate 2 (refine sP (v := ?_) (a' := ?_) rfl rfl (by rfl) ?_ ?_ ?_; rotate_left 2; (· intro w'; go_simp; with_reducible rfl); (· simp only [Act.put, List.setIfInBounds_toArray, List.set_cons_zero, List.set_cons_succ, kw64, kw32]; rfl))
                iterate 8 (refine sO (a' := ?_) rfl rfl (by rfl) ?_ ?_; rotate_left 1; (· simp only [Act.put, List.setIfInBounds_toArray, List.set_cons_zero, List.set_cons_succ, kw64, kw32]; rfl))
                iterate 2 (refine sP (v := ?_) (a' := ?_) rfl rfl (by rfl) ?_ ?_ ?_; rotate_left 2; (· intro w'; go_simp; with_reducible rfl); (· simp only [Act.put, List.setIfInBounds_toArray, List.set_cons_zero, List.set_cons_succ, kw64, kw32]; rfl))
                intro w1 hg
                replace HO := HO.up hg
                clear hg
                go_wp2
                go_ret
                exact ⟨ret_congr (by rw [HR.out]; rfl), HO.below⟩
              · by_cases hu : un ≤ 40
                · rw [decide_eq_true hu] at HR
                  have kU : (un : Int) ≤ 40 := by omega
                  clear hu
                  cases bo
                  · by_cases hm : max (max st gt) pv < 4294967296
                    · rw [decide_eq_true hm] at HR
                      have kM : max (st : Int) (max gt pv) < 4294967296 := by omega
                      clear hm
                      refine kall [(0, true, some 27), (1, true, some 28), (2, true, some 29), (3, true, some 30), (4, true, some 31), (5, true, some 32), (6, true, some 33), (7, true, some 34), (8, true, some 35), (9, true, some 36), (12, true, some 39), (10, true, some 37), (11, true, some 38), (13, true, some 40), (14, true, some 41), (15, true, some 42), (16, true, some 43), (17, true, some 44), (18, true, some 45), (19, true, some 46), (20, true, some 47), (21, true, some 48), (22, true, some 49), (23, true, some 50), (24, true, some 51), (25, true, some 52), (26, true, some 53), (27, true, some 54), (28, true, some 55), (29, true, some 56), (30, true, some 57), (31, true, some 58), (32, true, some 59), (33, true, some 60), (34, true, some 61), (36, true, some 63), (35, true, some 62), (37, true, some 64), (38, true, some 65), (39, true, some 66), (40, true, some 67), (41, true, some 68), (43, true, some 70), (45, true, some 72), (42, true, some 69), (44, true, some 71), (46, true, some 73), (47, true, some 74), (48, true, some 75), (49, true, some 76), (50, true, some 2)] (by kernel_rfl) rfl (by kernel_rfl) rfl (fun _ _ _ _ _ h => h) ?_
                      (refine sP (v := ?_) (a' := ?_) rfl rfl (by rfl) ?_ ?_ ?_; rotate_left 2; (· intro w'; go_simp; with_reducible rfl); (· simp only [Act.put, List.setIfInBounds_toArray, List.set_cons_zero, List.set_cons_succ, kw64, kw32]; rfl))
                      (refine sB (v := ?_) (a' := ?_) rfl rfl (by rfl) ?_ ?_ ?_; rotate_left 2; (· intro w1 hg; have c9 := (HO.up hg).cell 1 rfl; go_simp; with_reducible rfl); (· simp only [Act.put, List.setIfInBounds_toArray, List.set_cons_zero, List.set_cons_succ, kw64, kw32]; rfl))
                      (refine sD (v := ?_) (a' := ?_) Try.func48 rfl rfl (by rfl) rfl (by kernel_rfl) rfl (by rfl) ?_ ?_ ?_; rotate_left 2; (· intro w1 hg; exact H0.out w1); (· simp only [Act.put, List.setIfInBounds_toArray, List.set_cons_zero, List.set_cons_succ, kw64, kw32]; rfl))
                      iterate 2 (refine sP (v := ?_) (a' := ?_) rfl rfl (by rfl) ?_ ?_ ?_; rotate_left 2; (· intro w'; go_simp; with_reducible rfl); (· simp only [Act.put, List.setIfInBounds_toArray, List.set_cons_zero, List.set_cons_succ, kw64, kw32]; rfl))
                      (refine sB (v := ?_) (a' := ?_) rfl rfl (by rfl) ?_ ?_ ?_; rotate_left 2; (· intro w1 hg; have c9 := (HO.up hg).cell 1 rfl; go_simp; with_reducible rfl); (· simp only [Act.put, List.setIfInBounds_toArray, List.set_cons_zero, List.set_cons_succ, kw64, kw32]; rfl))
                      (refine sD (v := ?_) (a' := ?_) Try.func48 rfl rfl (by rfl) rfl (by kernel_rfl) rfl (by rfl) ?_ ?_ ?_; rotate_left 2; (· intro w1 hg; exact H1.out w1); (· simp only [Act.put, List.setIfInBounds_toArray, List.set_cons_zero, List.set_cons_succ, kw64, kw32]; rfl))
                      iterate 4 (refine sP (v := ?_) (a' := ?_) rfl rfl (by rfl) ?_ ?_ ?_; rotate_left 2; (· intro w'; go_simp; with_reducible rfl); (· simp only [Act.put, List.setIfInBounds_toArray, List.set_cons_zero, List.set_cons_succ, kw64, kw32]; rfl))
                      (refine sB (v := ?_) (a' := ?_) rfl rfl (by rfl) ?_ ?_ ?_; rotate_left 2; (· intro w1 hg; have c9 := (HO.up hg).cell 1 rfl; go_simp; with_reducible rfl); (· simp only [Act.put, List.setIfInBounds_toArray, List.set_cons_zero, List.set_cons_succ, kw64, kw32]; rfl))
                      (refine sD (v := ?_) (a' := ?_) Try.func49 rfl rfl (by rfl) rfl (by kernel_rfl) rfl (by rfl) ?_ ?_ ?_; rotate_left 2; (· intro w1 hg; exact HP.out w1); (· simp only [Act.put, List.setIfInBounds_toArray, List.set_cons_zero, List.set_cons_succ, kw64, kw32]; rfl))
                      (refine sB (v := ?_) (a' := ?_) rfl rfl (by rfl) ?_ ?_ ?_; rotate_left 2; (· intro w1 hg; have c9 := (HO.up hg).cell 1 rfl; go_simp; with_reducible rfl); (· simp only [Act.put, List.setIfInBounds_toArray, List.set_cons_zero, List.set_cons_succ, kw64, kw32]; rfl))
                      (refine sD (v := ?_) (a' := ?_) Try.func49 rfl rfl (by rfl) rfl (by kernel_rfl) rfl (by rfl) ?_ ?_ ?_; rotate_left 2; (· intro w1 hg; exact HRE.out w1); (· simp only [Act.put, List.setIfInBounds_toArray, List.set_cons_zero, List.set_cons_succ, kw64, kw32]; rfl))
                      (refine sP (v := ?_) (a' := ?_) rfl rfl (by rfl) ?_ ?_ ?_; rotate_left 2; (· intro w'; go_simp; with_reducible rfl); (· simp only [Act.put, List.setIfInBounds_toArray, List.set_cons_zero, List.set_cons_succ, kw64, kw32]; rfl))
                      iterate 3 (refine sO (a' := ?_) rfl rfl (by rfl) ?_ ?_; rotate_left 1; (· simp only [Act.put, List.setIfInBounds_toArray, List.set_cons_zero, List.set_cons_succ, kw64, kw32]; rfl))
                      (refine sP (v := ?_) (a' := ?_) rfl rfl (by rfl) ?_ ?_ ?_; rotate_left 2; (· intro w'; go_simp; with_reducible rfl); (· simp only [Act.put, List.setIfInBounds_toArray, List.set_cons_zero, List.set_cons_succ, kw64, kw32]; rfl))
                      (refine sP (v := .bool true) (a' := ?_) rfl rfl (by rfl) ?_ ?_ ?_; rotate_left 1; (· intro w'; go_simp; first | done | rw [HE.out] | simpa using HE.out); (· simp only [Act.put, List.setIfInBounds_toArray, List.set_cons_zero, List.set_cons_succ, kw64, kw32]; rfl))
                      iterate 3 (refine sP (v := ?_) (a' := ?_) rfl rfl (by rfl) ?_ ?_ ?_; rotate_left 2; (· intro w'; go_simp; with_reducible rfl); (· simp only [Act.put, List.setIfInBounds_toArray, List.set_cons_zero, List.set_cons_succ, kw64, kw32]; rfl))
                      (refine sB (v := ?_) (a' := ?_) rfl rfl (by rfl) ?_ ?_ ?_; rotate_left 2; (· intro w1 hg; have c9 := (HO.up hg).cell 1 rfl; go_simp; with_reducible rfl); (· simp only [Act.put, List.setIfInBounds_toArray, List.set_cons_zero, List.set_cons_succ, kw64, kw32]; rfl))
                      (refine sD (v := ?_) (a' := ?_) Try.func51 rfl rfl (by rfl) rfl (by kernel_rfl) rfl (by rfl) ?_ ?_ ?_; rotate_left 2; (· intro w1 hg; exact HK.out w1 ((HO.up hg).below)); (· simp only [Act.put, List.setIfInBounds_toArray, List.set_cons_zero, List.set_cons_succ, kw64, kw32]; rfl))
                      iterate 3 (refine sP (v := ?_) (a' := ?_) rfl rfl (by rfl) ?_ ?_ ?_; rotate_left 2; (· intro w'; go_simp; with_reducible rfl); (· simp only [Act.put, List.setIfInBounds_toArray, List.set_cons_zero, List.set_cons_succ, kw64, kw32]; rfl))
                      (refine sB (v := ?_) (a' := ?_) rfl rfl (by rfl) ?_ ?_ ?_; rotate_left 2; (· intro w1 hg; have c9 := (HO.up hg).cell 1 rfl; go_simp; with_reducible rfl); (· simp only [Act.put, List.setIfInBounds_toArray, List.set_cons_zero, List.set_cons_succ, kw64, kw32]; rfl))
                      (refine sP (v := ?_) (a' := ?_) rfl rfl (by rfl) ?_ ?_ ?_; rotate_left 2; (· intro w'; go_simp; with_reducible rfl); (· simp only [Act.put, List.setIfInBounds_toArray, List.set_cons_zero, List.set_cons_succ, kw64, kw32]; rfl))
                      (refine sP (v := .bool true) (a' := ?_) rfl rfl (by rfl) ?_ ?_ ?_; rotate_left 1; (· intro w'; go_simp; first | done | rw [decide_eq_true kU]); (· simp only [Act.put, List.setIfInBounds_toArray, List.set_cons_zero, List.set_cons_succ, kw64, kw32]; rfl))
                      iterate 4 (refine sP (v := ?_) (a' := ?_) rfl rfl (by rfl) ?_ ?_ ?_; rotate_left 2; (· intro w'; go_simp; with_reducible rfl); (· simp only [Act.put, List.setIfInBounds_toArray, List.set_cons_zero, List.set_cons_succ, kw64, kw32]; rfl))
                      (refine sB (v := ?_) (a' := ?_) rfl rfl (by rfl) ?_ ?_ ?_; rotate_left 2; (· intro w1 hg; have c9 := (HO.up hg).cell 1 rfl; go_simp; with_reducible rfl); (· simp only [Act.put, List.setIfInBounds_toArray, List.set_cons_zero, List.set_cons_succ, kw64, kw32]; rfl))
                      (refine sD (v := ?_) (a' := ?_) Try.func29 rfl rfl (by rfl) rfl (by kernel_rfl) rfl (by rfl) ?_ ?_ ?_; rotate_left 2; (· intro w1 hg; exact HC.out w1 ((HO.up hg).below)); (· simp only [Act.put, List.setIfInBounds_toArray, List.set_cons_zero, List.set_cons_succ, kw64, kw32]; rfl))
                      iterate 6 (refine sP (v := ?_) (a' := ?_) rfl rfl (by rfl) ?_ ?_ ?_; rotate_left 2; (· intro w'; go_simp; with_reducible rfl); (· simp only [Act.put, List.setIfInBounds_toArray, List.set_cons_zero, List.set_cons_succ, kw64, kw32]; rfl))
                      iterate 3 (refine sB (v := ?_) (a' := ?_) rfl rfl (by rfl) ?_ ?_ ?_; rotate_left 2; (· intro w1 hg; have c9 := (HO.up hg).cell 1 rfl; go_simp; with_reducible rfl); (· simp only [Act.put, List.setIfInBounds_toArray, List.set_cons_zero, List.set_cons_succ, kw64, kw32]; rfl))
                      (refine sP (v := .int .u64 (max (st : Int) (max gt pv))) (a' := ?_) rfl rfl (by rfl) ?_ ?_ ?_; rotate_left 1; (· intro w'; go_simp; first | done | rfl | exact max3 _ _ _); (· simp only [Act.put, List.setIfInBounds_toArray, List.set_cons_zero, List.set_cons_succ, kw64, kw32]; rfl))
                      (refine sP (v := .bool true) (a' := ?_) rfl rfl (by rfl) ?_ ?_ ?_; rotate_left 1; (· intro w'; go_simp; first | done | rw [decide_eq_true kM]); (· simp only [Act.put, List.setIfInBounds_toArray, List.set_cons_zero, List.set_cons_succ, kw64, kw32]; rfl))
                      iterate 2 (refine sP (v := ?_) (a' := ?_) rfl rfl (by rfl) ?_ ?_ ?_; rotate_left 2; (· intro w'; go_simp; with_reducible rfl); (· simp only [Act.put, List.setIfInBounds_toArray, List.set_cons_zero, List.set_cons_succ, kw64, kw32]; rfl))
                      intro w1 hg
                      replace HO := HO.up hg
                      clear hg
                      go_wp2
                      go_ret
                      exact ⟨ret_congr (by rw [HR.out]; rfl), HO.below⟩
                    · rw [decide_eq_false hm] at HR
                      have kM : ¬ (max (st : Int) (max gt pv) < 4294967296) := by omega
                      clear hm
                      refine kall [(0, true, some 27), (1, true, some 28), (2, true, some 29), (3, true, some 30), (4, true, some 31), (5, true, some 32), (6, true, some 33), (7, true, some 34), (8, true, some 35), (9, true, some 36), (12, true, some 39), (10, true, some 37), (11, true, some 38), (13, true, some 40), (14, true, some 41), (15, true, some 42), (16, true, some 43), (17, true, some 44), (18, true, some 45), (19, true, some 46), (20, true, some 47), (21, true, some 48), (22, true, some 49), (23, true, some 50), (24, true, some 51), (25, true, some 52), (26, true, some 53), (27, true, some 54), (28, true, some 55), (29, true, some 56), (30, true, some 57), (31, true, some 58), (32, true, some 59), (33, true, some 60), (34, true, some 61), (36, true, some 63), (35, true, some 62), (37, true, some 64), (38, true, some 65), (39, true, some 66), (40, true, some 67), (41, true, some 68), (43, true, some 70), (45, true, some 72), (42, true, some 69), (44, true, some 71), (46, true, some 73), (47, true, some 74), (48, true, some 75), (49, true, some 76), (50, true, some 2)] (by kernel_rfl) rfl (by kernel_rfl) rfl (fun _ _ _ _ _ h => h) ?_
                      (refine sP (v := ?_) (a' := ?_) rfl rfl (by rfl) ?_ ?_ ?_; rotate_left 2; (· intro w'; go_simp; with_reducible rfl); (· simp only [Act.put, List.setIfInBounds_toArray, List.set_cons_zero, List.set_cons_succ, kw64, kw32]; rfl))
                      (refine sB (v := ?_) (a' := ?_) rfl rfl (by rfl) ?_ ?_ ?_; rotate_left 2; (· intro w1 hg; have c9 := (HO.up hg).cell 1 rfl; go_simp; with_reducible rfl); (· simp only [Act.put, List.setIfInBounds_toArray, List.set_cons_zero, List.set_cons_succ, kw64, kw32]; rfl))
                      (refine sD (v := ?_) (a' := ?_) Try.func48 rfl rfl (by rfl) rfl (by kernel_rfl) rfl (by rfl) ?_ ?_ ?_; rotate_left 2; (· intro w1 hg; exact H0.out w1); (· simp only [Act.put, List.setIfInBounds_toArray, List.set_cons_zero, List.set_cons_succ, kw64, kw32]; rfl))
                      iterate 2 (refine sP (v := ?_) (a' := ?_) rfl rfl (by rfl) ?_ ?_ ?_; rotate_left 2; (· intro w'; go_simp; with_reducible rfl); (· simp only [Act.put, List.setIfInBounds_toArray, List.set_cons_zero, List.set_cons_succ, kw64, kw32]; rfl))
                      (refine sB (v := ?_) (a' := ?_) rfl rfl (by rfl) ?_ ?_ ?_; rotate_left 2; (· intro w1 hg; have c9 := (HO.up hg).cell 1 rfl; go_simp; with_reducible rfl); (· simp only [Act.put, List.setIfInBounds_toArray, List.set_cons_zero, List.set_cons_succ, kw64, kw32]; rfl))
                      (refine sD (v := ?_) (a' := ?_) Try.func48 rfl rfl (by rfl) rfl (by kernel_rfl) rfl (by rfl) ?_ ?_ ?_; rotate_left 2; (· intro w1 hg; exact H1.out w1); (· simp only [Act.put, List.setIfInBounds_toArray, List.set_cons_zero, List.set_cons_succ, kw64, kw32]; rfl))
                      iterate 4 (refine sP (v := ?_) (a' := ?_) rfl rfl (by rfl) ?_ ?_ ?_; rotate_left 2; (· intro w'; go_simp; with_reducible rfl); (· simp only [Act.put, List.setIfInBounds_toArray, List.set_cons_zero, List.set_cons_succ, kw64, kw32]; rfl))
                      (refine sB (v := ?_) (a' := ?_) rfl rfl (by rfl) ?_ ?_ ?_; rotate_left 2; (· intro w1 hg; have c9 := (HO.up hg).cell 1 rfl; go_simp; with_reducible rfl); (· simp only [Act.put, List.setIfInBounds_toArray, List.set_cons_zero, List.set_cons_succ, kw64, kw32]; rfl))
                      (refine sD (v := ?_) (a' := ?_) Try.func49 rfl rfl (by rfl) rfl (by kernel_rfl) rfl (by rfl) ?_ ?_ ?_; rotate_left 2; (· intro w1 hg; exact HP.out w1); (· simp only [Act.put, List.setIfInBounds_toArray, List.set_cons_zero, List.set_cons_succ, kw64, kw32]; rfl))
                      (refine sB (v := ?_) (a' := ?_) rfl rfl (by rfl) ?_ ?_ ?_; rotate_left 2; (· intro w1 hg; have c9 := (HO.up hg).cell 1 rfl; go_simp; with_reducible rfl); (· simp only [Act.put, List.setIfInBounds_toArray, List.set_cons_zero, List.set_cons_succ, kw64, kw32]; rfl))
                      (refine sD (v := ?_) (a' := ?_) Try.func49 rfl rfl (by rfl) rfl (by kernel_rfl) rfl (by rfl) ?_ ?_ ?_; rotate_left 2; (· intro w1 hg; exact HRE.out w1); (· simp only [Act.put, List.setIfInBounds_toArray, List.set_cons_zero, List.set_cons_succ, kw64, kw32]; rfl))
                      (refine sP (v := ?_) (a' := ?_) rfl rfl (by rfl) ?_ ?_ ?_; rotate_left 2; (· intro w'; go_simp; with_reducible rfl); (· simp only [Act.put, List.setIfInBounds_toArray, List.set_cons_zero, List.set_cons_succ, kw64, kw32]; rfl))
                      iterate 3 (refine sO (a' := ?_) rfl rfl (by rfl) ?_ ?_; rotate_left 1; (· simp only [Act.put, List.setIfInBounds_toArray, List.set_cons_zero, List.set_cons_succ, kw64, kw32]; rfl))
                      (refine sP (v := ?_) (a' := ?_) rfl rfl (by rfl) ?_ ?_ ?_; rotate_left 2; (· intro w'; go_simp; with_reducible rfl); (· simp only [Act.put, List.setIfInBounds_toArray, List.set_cons_zero, List.set_cons_succ, kw64, kw32]; rfl))
                      (refine sP (v := .bool true) (a' := ?_) rfl rfl (by rfl) ?_ ?_ ?_; rotate_left 1; (· intro w'; go_simp; first | done | rw [HE.out] | simpa using HE.out); (· simp only [Act.put, List.setIfInBounds_toArray, List.set_cons_zero, List.set_cons_succ, kw64, kw32]; rfl))
                      iterate 3 (refine sP (v := ?_) (a' := ?_) rfl rfl (by rfl) ?_ ?_ ?_; rotate_left 2; (· intro w'; go_simp; with_reducible rfl); (· simp only [Act.put, List.setIfInBounds_toArray, List.set_cons_zero, List.set_cons_succ, kw64, kw32]; rfl))
                      (refine sB (v := ?_) (a' := ?_) rfl rfl (by rfl) ?_ ?_ ?_; rotate_left 2; (· intro w1 hg; have c9 := (HO.up hg).cell 1 rfl; go_simp; with_reducible rfl); (· simp only [Act.put, List.setIfInBounds_toArray, List.set_cons_zero, List.set_cons_succ, kw64, kw32]; rfl))
                      (refine sD (v := ?_) (a' := ?_) Try.func51 rfl rfl (by rfl) rfl (by kernel_rfl) rfl (by rfl) ?_ ?_ ?_; rotate_left 2; (· intro w1 hg; exact HK.out w1 ((HO.up hg).below)); (· simp only [Act.put, List.setIfInBounds_toArray, List.set_cons_zero, List.set_cons_succ, kw64, kw32]; rfl))
                      iterate 3 (refine sP (v := ?_) (a' := ?_) rfl rfl (by rfl) ?_ ?_ ?_; rotate_left 2; (· intro w'; go_simp; with_reducible rfl); (· simp only [Act.put, List.setIfInBounds_toArray, List.set_cons_zero, List.set_cons_succ, kw64, kw32]; rfl))
                      (refine sB (v := ?_) (a' := ?_) rfl rfl (by rfl) ?_ ?_ ?_; rotate_left 2; (· intro w1 hg; have c9 := (HO.up hg).cell 1 rfl; go_simp; with_reducible rfl); (· simp only [Act.put, List.setIfInBounds_toArray, List.set_cons_zero, List.set_cons_succ, kw64, kw32]; rfl))
                      (refine sP (v := ?_) (a' := ?_) rfl rfl (by rfl) ?_ ?_ ?_; rotate_left 2; (· intro w'; go_simp; with_reducible rfl); (· simp only [Act.put, List.setIfInBounds_toArray, List.set_cons_zero, List.set_cons_succ, kw64, kw32]; rfl))
                      (refine sP (v := .bool true) (a' := ?_) rfl rfl (by rfl) ?_ ?_ ?_; rotate_left 1; (· intro w'; go_simp; first | done | rw [decide_eq_true kU]); (· simp only [Act.put, List.setIfInBounds_toArray, List.set_cons_zero, List.set_cons_succ, kw64, kw32]; rfl))
                      iterate 4 (refine sP (v := ?_) (a' := ?_) rfl rfl (by rfl) ?_ ?_ ?_; rotate_left 2; (· intro w'; go_simp; with_reducible rfl); (· simp only [Act.put, List.setIfInBounds_toArray, List.set_cons_zero, List.set_cons_succ, kw64, kw32]; rfl))
                      (refine sB (v := ?_) (a' := ?_) rfl rfl (by rfl) ?_ ?_ ?_; rotate_left 2; (· intro w1 hg; have c9 := (HO.up hg).cell 1 rfl; go_simp; with_reducible rfl); (· simp only [Act.put, List.setIfInBounds_toArray, List.set_cons_zero, List.set_cons_succ, kw64, kw32]; rfl))
                      (refine sD (v := ?_) (a' := ?_) Try.func29 rfl rfl (by rfl) rfl (by kernel_rfl) rfl (by rfl) ?_ ?_ ?_; rotate_left 2; (· intro w1 hg; exact HC.out w1 ((HO.up hg).below)); (· simp only [Act.put, List.setIfInBounds_toArray, List.set_cons_zero, List.set_cons_succ, kw64, kw32]; rfl))
                      iterate 6 (refine sP (v := ?_) (a' := ?_) rfl rfl (by rfl) ?_ ?_ ?_; rotate_left 2; (· intro w'; go_simp; with_reducible rfl); (· simp only [Act.put, List.setIfInBounds_toArray, List.set_cons_zero, List.set_cons_succ, kw64, kw32]; rfl))
                      iterate 3 (refine sB (v := ?_) (a' := ?_) rfl rfl (by rfl) ?_ ?_ ?_; rotate_left 2; (· intro w1 hg; have c9 := (HO.up hg).cell 1 rfl; go_simp; with_reducible rfl); (· simp only [Act.put, List.setIfInBounds_toArray, List.set_cons_zero, List.set_cons_succ, kw64, kw32]; rfl))
                      (refine sP (v := .int .u64 (max (st : Int) (max gt pv))) (a' := ?_) rfl rfl (by rfl) ?_ ?_ ?_; rotate_left 1; (· intro w'; go_simp; first | done | rfl | exact max3 _ _ _); (· simp only [Act.put, List.setIfInBounds_toArray, List.set_cons_zero, List.set_cons_succ, kw64, kw32]; rfl))
                      (refine sP (v := .bool false) (a' := ?_) rfl rfl (by rfl) ?_ ?_ ?_; rotate_left 1; (· intro w'; go_simp; first | done | rw [decide_eq_false kM]); (· simp only [Act.put, List.setIfInBounds_toArray, List.set_cons_zero, List.set_cons_succ, kw64, kw32]; rfl))
                      iterate 2 (refine sP (v := ?_) (a' := ?_) rfl rfl (by rfl) ?_ ?_ ?_; rotate_left 2; (· intro w'; go_simp; with_reducible rfl); (· simp only [Act.put, List.setIfInBounds_toArray, List.set_cons_zero, List.set_cons_succ, kw64, kw32]; rfl))
                      intro w1 hg
                      replace HO := HO.up hg
                      clear hg
                      go_wp2
                      go_ret
                      exact ⟨ret_congr (by rw [HR.out]; rfl), HO.below⟩
                  · skip
                    refine kall [(0, true, some 27), (1, true, some 28), (2, true, some 29), (3, true, some 30), (4, true, some 31), (5, true, some 32), (6, true, some 33), (7, true, some 34), (8, true, some 35), (9, true, some 36), (12, true, some 39), (10, true, some 37), (11, true, some 38), (13, true, some 40), (14, true, some 41), (15, true, some 42), (16, true, some 43), (17, true, some 44), (18, true, some 45), (19, true, some 46), (20, true, some 47), (21, true, some 48), (22, true, some 49), (23, true, some 50), (24, true, some 51), (25, true, some 52), (26, true, some 53), (27, true, some 54), (28, true, some 55), (29, true, some 56), (30, true, some 57), (31, true, some 58), (32, true, some 59), (33, true, some 60), (34, true, some 61), (36, true, some 63), (35, true, some 62), (37, true, some 64), (38, true, some 65), (39, true, some 66), (40, true, some 67), (41, true, some 68), (43, true, some 70), (45, true, some 72), (42, true, some 69), (44, true, some 71), (46, true, some 73), (47, true, some 74), (48, true, some 75), (49, true, some 76), (50, true, some 2)] (by kernel_rfl) rfl (by kernel_rfl) rfl (fun _ _ _ _ _ h => h) ?_
                    (refine sP (v := ?_) (a' := ?_) rfl rfl (by rfl) ?_ ?_ ?_; rotate_left 2; (· intro w'; go_simp; with_reducible rfl); (· simp only [Act.put, List.setIfInBounds_toArray, List.set_cons_zero, List.set_cons_succ, kw64, kw32]; rfl))
                    (refine sB (v := ?_) (a' := ?_) rfl rfl (by rfl) ?_ ?_ ?_; rotate_left 2; (· intro w1 hg; have c9 := (HO.up hg).cell 1 rfl; go_simp; with_reducible rfl); (· simp only [Act.put, List.setIfInBounds_toArray, List.set_cons_zero, List.set_cons_succ, kw64, kw32]; rfl))
                    (refine sD (v := ?_) (a' := ?_) Try.func48 rfl rfl (by rfl) rfl (by kernel_rfl) rfl (by rfl) ?_ ?_ ?_; rotate_left 2; (· intro w1 hg; exact H0.out w1); (· simp only [Act.put, List.setIfInBounds_toArray, List.set_cons_zero, List.set_cons_succ, kw64, kw32]; rfl))
                    iterate 2 (refine sP (v := ?_) (a' := ?_) rfl rfl (by rfl) ?_ ?_ ?_; rotate_left 2; (· intro w'; go_simp; with_reducible rfl); (· simp only [Act.put, List.setIfInBounds_toArray, List.set_cons_zero, List.set_cons_succ, kw64, kw32]; rfl))
                    (refine sB (v := ?_) (a' := ?_) rfl rfl (by rfl) ?_ ?_ ?_; rotate_left 2; (· intro w1 hg; have c9 := (HO.up hg).cell 1 rfl; go_simp; with_reducible rfl); (· simp only [Act.put, List.setIfInBounds_toArray, List.set_cons_zero, List.set_cons_succ, kw64, kw32]; rfl))
                    (refine sD (v := ?_) (a' := ?_) Try.func48 rfl rfl (by rfl) rfl (by kernel_rfl) rfl (by rfl) ?_ ?_ ?_; rotate_left 2; (· intro w1 hg; exact H1.out w1); (· simp only [Act.put, List.setIfInBounds_toArray, List.set_cons_zero, List.set_cons_succ, kw64, kw32]; rfl))
                    iterate 4 (refine sP (v := ?_) (a' := ?_) rfl rfl (by rfl) ?_ ?_ ?_; rotate_left 2; (· intro w'; go_simp; with_reducible rfl); (· simp only [Act.put, List.setIfInBounds_toArray, List.set_cons_zero, List.set_cons_succ, kw64, kw32]; rfl))
                    (refine sB (v := ?_) (a' := ?_) rfl rfl (by rfl) ?_ ?_ ?_; rotate_left 2; (· intro w1 hg; have c9 := (HO.up hg).cell 1 rfl; go_simp; with_reducible rfl); (· simp only [Act.put, List.setIfInBounds_toArray, List.set_cons_zero, List.set_cons_succ, kw64, kw32]; rfl))
                    (refine sD (v := ?_) (a' := ?_) Try.func49 rfl rfl (by rfl) rfl (by kernel_rfl) rfl (by rfl) ?_ ?_ ?_; rotate_left 2; (· intro w1 hg; exact HP.out w1); (· simp only [Act.put, List.setIfInBounds_toArray, List.set_cons_zero, List.set_cons_succ, kw64, kw32]; rfl))
                    (refine sB (v := ?_) (a' := ?_) rfl rfl (by rfl) ?_ ?_ ?_; rotate_left 2; (· intro w1 hg; have c9 := (HO.up hg).cell 1 rfl; go_simp; with_reducible rfl); (· simp only [Act.put, List.setIfInBounds_toArray, List.set_cons_zero, List.set_cons_succ, kw64, kw32]; rfl))
                    (refine sD (v := ?_) (a' := ?_) Try.func49 rfl rfl (by rfl) rfl (by kernel_rfl) rfl (by rfl) ?_ ?_ ?_; rotate_left 2; (· intro w1 hg; exact HRE.out w1); (· simp only [Act.put, List.setIfInBounds_toArray, List.set_cons_zero, List.set_cons_succ, kw64, kw32]; rfl))
                    (refine sP (v := ?_) (a' := ?_) rfl rfl (by rfl) ?_ ?_ ?_; rotate_left 2; (· intro w'; go_simp; with_reducible rfl); (· simp only [Act.put, List.setIfInBounds_toArray, List.set_cons_zero, List.set_cons_succ, kw64, kw32]; rfl))
                    iterate 3 (refine sO (a' := ?_) rfl rfl (by rfl) ?_ ?_; rotate_left 1; (· simp only [Act.put, List.setIfInBounds_toArray, List.set_cons_zero, List.set_cons_succ, kw64, kw32]; rfl))
                    (refine sP (v := ?_) (a' := ?_) rfl rfl (by rfl) ?_ ?_ ?_; rotate_left 2; (· intro w'; go_simp; with_reducible rfl); (· simp only [Act.put, List.setIfInBounds_toArray, List.set_cons_zero, List.set_cons_succ, kw64, kw32]; rfl))
                    (refine sP (v := .bool true) (a' := ?_) rfl rfl (by rfl) ?_ ?_ ?_; rotate_left 1; (· intro w'; go_simp; first | done | rw [HE.out] | simpa using HE.out); (· simp only [Act.put, List.setIfInBounds_toArray, List.set_cons_zero, List.set_cons_succ, kw64, kw32]; rfl))
                    iterate 3 (refine sP (v := ?_) (a' := ?_) rfl rfl (by rfl) ?_ ?_ ?_; rotate_left 2; (· intro w'; go_simp; with_reducible rfl); (· simp only [Act.put, List.setIfInBounds_toArray, List.set_cons_zero, List.set_cons_succ, kw64, kw32]; rfl))
                    (refine sB (v := ?_) (a' := ?_) rfl rfl (by rfl) ?_ ?_ ?_; rotate_left 2; (· intro w1 hg; have c9 := (HO.up hg).cell 1 rfl; go_simp; with_reducible rfl); (· simp only [Act.put, List.setIfInBounds_toArray, List.set_cons_zero, List.set_cons_succ, kw64, kw32]; rfl))
                    (refine sD (v := ?_) (a' := ?_) Try.func51 rfl rfl (by rfl) rfl (by kernel_rfl) rfl (by rfl) ?_ ?_ ?_; rotate_left 2; (· intro w1 hg; exact HK.out w1 ((HO.up hg).below)); (· simp only [Act.put, List.setIfInBounds_toArray, List.set_cons_zero, List.set_cons_succ, kw64, kw32]; rfl))
                    iterate 3 (refine sP (v := ?_) (a' := ?_) rfl rfl (by rfl) ?_ ?_ ?_; rotate_left 2; (· intro w'; go_simp; with_reducible rfl); (· simp only [Act.put, List.setIfInBounds_toArray, List.set_cons_zero, List.set_cons_succ, kw64, kw32]; rfl))
                    (refine sB (v := ?_) (a' := ?_) rfl rfl (by rfl) ?_ ?_ ?_; rotate_left 2; (· intro w1 hg; have c9 := (HO.up hg).cell 1 rfl; go_simp; with_reducible rfl); (· simp only [Act.put, List.setIfInBounds_toArray, List.set_cons_zero, List.set_cons_succ, kw64, kw32]; rfl))
                    (refine sP (v := ?_) (a' := ?_) rfl rfl (by rfl) ?_ ?_ ?_; rotate_left 2; (· intro w'; go_simp; with_reducible rfl); (· simp only [Act.put, List.setIfInBounds_toArray, List.set_cons_zero, List.set_cons_succ, kw64, kw32]; rfl))
                    (refine sP (v := .bool true) (a' := ?_) rfl rfl (by rfl) ?_ ?_ ?_; rotate_left 1; (· intro w'; go_simp; first | done | rw [decide_eq_true kU]); (· simp only [Act.put, List.setIfInBounds_toArray, List.set_cons_zero, List.set_cons_succ, kw64, kw32]; rfl))
                    iterate 4 (refine sP (v := ?_) (a' := ?_) rfl rfl (by rfl) ?_ ?_ ?_; rotate_left 2; (· intro w'; go_simp; with_reducible rfl); (· simp only [Act.put, List.setIfInBounds_toArray, List.set_cons_zero, List.set_cons_succ, kw64, kw32]; rfl))
                    (refine sB (v := ?_) (a' := ?_) rfl rfl (by rfl) ?_ ?_ ?_; rotate_left 2; (· intro w1 hg; have c9 := (HO.up hg).cell 1 rfl; go_simp; with_reducible rfl); (· simp only [Act.put, List.setIfInBounds_toArray, List.set_cons_zero, List.set_cons_succ, kw64, kw32]; rfl))
                    (refine sD (v := ?_) (a' := ?_) Try.func29 rfl rfl (by rfl) rfl (by kernel_rfl) rfl (by rfl) ?_ ?_ ?_; rotate_left 2; (· intro w1 hg; exact HC.out w1 ((HO.up hg).below)); (· simp only [Act.put, List.setIfInBounds_toArray, List.set_cons_zero, List.set_cons_succ, kw64, kw32]; rfl))
                    iterate 3 (refine sP (v := ?_) (a' := ?_) rfl rfl (by rfl) ?_ ?_ ?_; rotate_left 2; (· intro w'; go_simp; with_reducible rfl); (· simp only [Act.put, List.setIfInBounds_toArray, List.set_cons_zero, List.set_cons_succ, kw64, kw32]; rfl))
                    iterate 8 (refine sO (a' := ?_) rfl rfl (by rfl) ?_ ?_; rotate_left 1; (· simp only [Act.put, List.setIfInBounds_toArray, List.set_cons_zero, List.set_cons_succ, kw64, kw32]; rfl))
                    iterate 2 (refine sP (v := ?_) (a' := ?_) rfl rfl (by rfl) ?_ ?_ ?_; rotate_left 2; (· intro w'; go_simp; with_reducible rfl); (· simp only [Act.put, List.setIfInBounds_toArray, List.set_cons_zero, List.set_cons_succ, kw64, kw32]; rfl))
                    intro w1 hg
                    replace HO := HO.up hg
                    clear hg
                    go_wp2
                    go_ret
                    exact ⟨ret_congr (by rw [HR.out]; rfl), HO.below⟩
                · rw [decide_eq_false hu] at HR
                  have kU : ¬ ((un : Int) ≤ 40) := by omega
                  clear hu
                  refine kall [(0, true, some 27), (1, true, some 28), (2, true, some 29), (3, true, some 30), (4, true, some 31), (5, true, some 32), (6, true, some 33), (7, true, some 34), (8, true, some 35), (9, true, some 36), (12, true, some 39), (10, true, some 37), (11, true, some 38), (13, true, some 40), (14, true, some 41), (15, true, some 42), (16, true, some 43), (17, true, some 44), (18, true, some 45), (19, true, some 46), (20, true, some 47), (21, true, some 48), (22, true, some 49), (23, true, some 50), (24, true, some 51), (25, true, some 52), (26, true, some 53), (27, true, some 54), (28, true, some 55), (29, true, some 56), (30, true, some 57), (31, true, some 58), (32, true, some 59), (33, true, some 60), (34, true, some 61), (36, true, some 63), (35, true, some 62), (37, true, some 64), (38, true, some 65), (39, true, some 66), (40, true, some 67), (41, true, some 68), (43, true, some 70), (45, true, some 72), (42, true, some 69), (44, true, some 71), (46, true, some 73), (47, true, some 74), (48, true, some 75), (49, true, some 76), (50, true, some 2)] (by kernel_rfl) rfl (by kernel_rfl) rfl (fun _ _ _ _ _ h => h) ?_
                  (refine sP (v := ?_) (a' := ?_) rfl rfl (by rfl) ?_ ?_ ?_; rotate_left 2; (· intro w'; go_simp; with_reducible rfl); (· simp only [Act.put, List.setIfInBounds_toArray, List.set_cons_zero, List.set_cons_succ, kw64, kw32]; rfl))
                  (refine sB (v := ?_) (a' := ?_) rfl rfl (by rfl) ?_ ?_ ?_; rotate_left 2; (· intro w1 hg; have c9 := (HO.up hg).cell 1 rfl; go_simp; with_reducible rfl); (· simp only [Act.put, List.setIfInBounds_toArray, List.set_cons_zero, List.set_cons_succ, kw64, kw32]; rfl))
                  (refine sD (v := ?_) (a' := ?_) Try.func48 rfl rfl (by rfl) rfl (by kernel_rfl) rfl (by rfl) ?_ ?_ ?_; rotate_left 2; (· intro w1 hg; exact H0.out w1); (· simp only [Act.put, List.setIfInBounds_toArray, List.set_cons_zero, List.set_cons_succ, kw64, kw32]; rfl))
                  iterate 2 (refine sP (v := ?_) (a' := ?_) rfl rfl (by rfl) ?_ ?_ ?_; rotate_left 2; (· intro w'; go_simp; with_reducible rfl); (· simp only [Act.put, List.setIfInBounds_toArray, List.set_cons_zero, List.set_cons_succ, kw64, kw32]; rfl))
                  (refine sB (v := ?_) (a' := ?_) rfl rfl (by rfl) ?_ ?_ ?_; rotate_left 2; (· intro w1 hg; have c9 := (HO.up hg).cell 1 rfl; go_simp; with_reducible rfl); (· simp only [Act.put, List.setIfInBounds_toArray, List.set_cons_zero, List.set_cons_succ, kw64, kw32]; rfl))
                  (refine sD (v := ?_) (a' := ?_) Try.func48 rfl rfl (by rfl) rfl (by kernel_rfl) rfl (by rfl) ?_ ?_ ?_; rotate_left 2; (· intro w1 hg; exact H1.out w1); (· simp only [Act.put, List.setIfInBounds_toArray, List.set_cons_zero, List.set_cons_succ, kw64, kw32]; rfl))
                  iterate 4 (refine sP (v := ?_) (a' := ?_) rfl rfl (by rfl) ?_ ?_ ?_; rotate_left 2; (· intro w'; go_simp; with_reducible rfl); (· simp only [Act.put, List.setIfInBounds_toArray, List.set_cons_zero, List.set_cons_succ, kw64, kw32]; rfl))
                  (refine sB (v := ?_) (a' := ?_) rfl rfl (by rfl) ?_ ?_ ?_; rotate_left 2; (· intro w1 hg; have c9 := (HO.up hg).cell 1 rfl; go_simp; with_reducible rfl); (· simp only [Act.put, List.setIfInBounds_toArray, List.set_cons_zero, List.set_cons_succ, kw64, kw32]; rfl))
                  (refine sD (v := ?_) (a' := ?_) Try.func49 rfl rfl (by rfl) rfl (by kernel_rfl) rfl (by rfl) ?_ ?_ ?_; rotate_left 2; (· intro w1 hg; exact HP.out w1); (· simp only [Act.put, List.setIfInBounds_toArray, List.set_cons_zero, List.set_cons_succ, kw64, kw32]; rfl))
                  (refine sB (v := ?_) (a' := ?_) rfl rfl (by rfl) ?_ ?_ ?_; rotate_left 2; (· intro w1 hg; have c9 := (HO.up hg).cell 1 rfl; go_simp; with_reducible rfl); (· simp only [Act.put, List.setIfInBounds_toArray, List.set_cons_zero, List.set_cons_succ, kw64, kw32]; rfl))
                  (refine sD (v := ?_) (a' := ?_) Try.func49 rfl rfl (by rfl) rfl (by kernel_rfl) rfl (by rfl) ?_ ?_ ?_; rotate_left 2; (· intro w1 hg; exact HRE.out w1); (· simp only [Act.put, List.setIfInBounds_toArray, List.set_cons_zero, List.set_cons_succ, kw64, kw32]; rfl))
                  (refine sP (v := ?_) (a' := ?_) rfl rfl (by rfl) ?_ ?_ ?_; rotate_left 2; (· intro w'; go_simp; with_reducible rfl); (· simp only [Act.put, List.setIfInBounds_toArray, List.set_cons_zero, List.set_cons_succ, kw64, kw32]; rfl))
                  iterate 3 (refine sO (a' := ?_) rfl rfl (by rfl) ?_ ?_; rotate_left 1; (· simp only [Act.put, List.setIfInBounds_toArray, List.set_cons_zero, List.set_cons_succ, kw64, kw32]; rfl))
                  (refine sP (v := ?_) (a' := ?_) rfl rfl (by rfl) ?_ ?_ ?_; rotate_left 2; (· intro w'; go_simp; with_reducible rfl); (· simp only [Act.put, List.setIfInBounds_toArray, List.set_cons_zero, List.set_cons_succ, kw64, kw32]; rfl))
                  (refine sP (v := .bool true) (a' := ?_) rfl rfl (by rfl) ?_ ?_ ?_; rotate_left 1; (· intro w'; go_simp; first | done | rw [HE.out] | simpa using HE.out); (· simp only [Act.put, List.setIfInBounds_toArray, List.set_cons_zero, List.set_cons_succ, kw64, kw32]; rfl))
                  iterate 3 (refine sP (v := ?_) (a' := ?_) rfl rfl (by rfl) ?_ ?_ ?_; rotate_left 2; (· intro w'; go_simp; with_reducible rfl); (· simp only [Act.put, List.setIfInBounds_toArray, List.set_cons_zero, List.set_cons_succ, kw64, kw32]; rfl))
                  (refine sB (v := ?_) (a' := ?_) rfl rfl (by rfl) ?_ ?_ ?_; rotate_left 2; (· intro w1 hg; have c9 := (HO.up hg).cell 1 rfl; go_simp; with_reducible rfl); (· simp only [Act.put, List.setIfInBounds_toArray, List.set_cons_zero, List.set_cons_succ, kw64, kw32]; rfl))
                  (refine sD (v := ?_) (a' := ?_) Try.func51 rfl rfl (by rfl) rfl (by kernel_rfl) rfl (by rfl) ?_ ?_ ?_; rotate_left 2; (· intro w1 hg; exact HK.out w1 ((HO.up hg).below)); (· simp only [Act.put, List.setIfInBounds_toArray, List.set_cons_zero, List.set_cons_succ, kw64, kw32]; rfl))
                  iterate 3 (refine sP (v := ?_) (a' := ?_) rfl rfl (by rfl) ?_ ?_ ?_; rotate_left 2; (· intro w'; go_simp; with_reducible rfl); (· simp only [Act.put, List.setIfInBounds_toArray, List.set_cons_zero, List.set_cons_succ, kw64, kw32]; rfl))
                  (refine sB (v := ?_) (a' := ?_) rfl rfl (by rfl) ?_ ?_ ?_; rotate_left 2; (· intro w1 hg; have c9 := (HO.up hg).cell 1 rfl; go_simp; with_reducible rfl); (· simp only [Act.put, List.setIfInBounds_toArray, List.set_cons_zero, List.set_cons_succ, kw64, kw32]; rfl))
                  (refine sP (v := ?_) (a' := ?_) rfl rfl (by rfl) ?_ ?_ ?_; rotate_left 2; (· intro w'; go_simp; with_reducible rfl); (· simp only [Act.put, List.setIfInBounds_toArray, List.set_cons_zero, List.set_cons_succ, kw64, kw32]; rfl))
                  (refine sP (v := .bool false) (a' := ?_) rfl rfl (by rfl) ?_ ?_ ?_; rotate_left 1; (· intro w'; go_simp; first | done | rw [decide_eq_false kU]); (· simp only [Act.put, List.setIfInBounds_toArray, List.set_cons_zero, List.set_cons_succ, kw64, kw32]; rfl))
                  iterate 2 (refine sP (v := ?_) (a' := ?_) rfl rfl (by rfl) ?_ ?_ ?_; rotate_left 2; (· intro w'; go_simp; with_reducible rfl); (· simp only [Act.put, List.setIfInBounds_toArray, List.set_cons_zero, List.set_cons_succ, kw64, kw32]; rfl))
                  iterate 5 (refine sO (a' := ?_) rfl rfl (by rfl) ?_ ?_; rotate_left 1; (· simp only [Act.put, List.setIfInBounds_toArray, List.set_cons_zero, List.set_cons_succ, kw64, kw32]; rfl))
                  iterate 2 (refine sP (v := ?_) (a' := ?_) rfl rfl (by rfl) ?_ ?_ ?_; rotate_left 2; (· intro w'; go_simp; with_reducible rfl); (· simp only [Act.put, List.setIfInBounds_toArray, List.set_cons_zero, List.set_cons_succ, kw64, kw32]; rfl))
                  iterate 8 (refine sO (a' := ?_) rfl rfl (by rfl) ?_ ?_; rotate_left 1; (· simp only [Act.put, List.setIfInBounds_toArray, List.set_cons_zero, List.set_cons_succ, kw64, kw32]; rfl))
                  iterate 2 (refine sP (v := ?_) (a' := ?_) rfl rfl (by rfl) ?_ ?_ ?_; rotate_left 2; (· intro w'; go_simp; with_reducible rfl); (· simp only [Act.put, List.setIfInBounds_toArray, List.set_cons_zero, List.set_cons_succ, kw64, kw32]; rfl))
                  intro w1 hg
                  replace HO := HO.up hg
                  clear hg
                  go_wp2
                  go_ret
                  exact ⟨ret_congr (by rw [HR.out]; rfl), HO.below⟩
          · obtain ⟨be, hbe⟩ : ∃ b, (bp == (true && bs)) = b := ⟨_, rfl⟩
            rw [hbe] at HR
            rw [Bool.true_and] at hbe
            have HE := Lib.hid hbe
            clear hbe
            cases be
            · skip
              refine kall [(0, true, some 27), (1, true, some 28), (2, true, some 29), (3, true, some 30), (4, true, some 31), (5, true, some 32), (6, true, some 33), (7, true, some 34), (8, true, some 35), (9, true, some 36), (12, true, some 39), (10, true, some 37), (11, true, some 38), (13, true, some 40), (14, true, some 41), (15, true, some 42), (16, true, some 43), (17, true, some 44), (18, true, some 45), (19, true, some 46), (20, true, some 47), (21, true, some 48), (22, true, some 49), (23, true, some 50), (24, true, some 51), (25, true, some 52), (26, true, some 53), (27, true, some 54), (28, true, some 55), (29, true, some 56), (30, true, some 57), (31, true, some 58), (32, true, some 59), (33, true, some 60), (34, true, some 61), (36, true, some 63), (35, true, some 62), (37, true, some 64), (38, true, some 65), (39, true, some 66), (40, true, some 67), (41, true, some 68), (43, true, some 70), (45, true, some 72), (42, true, some 69), (44, true, some 71), (46, true, some 73), (47, true, some 74), (48, true, some 75), (49, true, some 76), (50, true, some 2)] (by kernel_rfl) rfl (by kernel_rfl) rfl (fun _ _ _ _ _ h => h) ?_
              (refine sP (v := ?_) (a' := ?_) rfl rfl (by rfl) ?_ ?_ ?_; rotate_left 2; (· intro w'; go_simp; with_reducible rfl); (· simp only [Act.put, List.setIfInBounds_toArray, List.set_cons_zero, List.set_cons_succ, kw64, kw32]; rfl))
              (refine sB (v := ?_) (a' := ?_) rfl rfl (by rfl) ?_ ?_ ?_; rotate_left 2; (· intro w1 hg; have c9 := (HO.up hg).cell 1 rfl; go_simp; with_reducible rfl); (· simp only [Act.put, List.setIfInBounds_toArray, List.set_cons_zero, List.set_cons_succ, kw64, kw32]; rfl))
              (refine sD (v := ?_) (a' := ?_) Try.func48 rfl rfl (by rfl) rfl (by kernel_rfl) rfl (by rfl) ?_ ?_ ?_; rotate_left 2; (· intro w1 hg; exact H0.out w1); (· simp only [Act.put, List.setIfInBounds_toArray, List.set_cons_zero, List.set_cons_succ, kw64, kw32]; rfl))
              iterate 2 (refine sP (v := ?_) (a' := ?_) rfl rfl (by rfl) ?_ ?_ ?_; rotate_left 2; (· intro w'; go_simp; with_reducible rfl); (· simp only [Act.put, List.setIfInBounds_toArray, List.set_cons_zero, List.set_cons_succ, kw64, kw32]; rfl))
              (refine sB (v := ?_) (a' := ?_) rfl rfl (by rfl) ?_ ?_ ?_; rotate_left 2; (· intro w1 hg; have c9 := (HO.up hg).cell 1 rfl; go_simp; with_reducible rfl); (· simp only [Act.put, List.setIfInBounds_toArray, List.set_cons_zero, List.set_cons_succ, kw64, kw32]; rfl))
              (refine sD (v := ?_) (a' := ?_) Try.func48 rfl rfl (by rfl) rfl (by kernel_rfl) rfl (by rfl) ?_ ?_ ?_; rotate_left 2; (· intro w1 hg; exact H1.out w1); (· simp only [Act.put, List.setIfInBounds_toArray, List.set_cons_zero, List.set_cons_succ, kw64, kw32]; rfl))
              iterate 4 (refine sP (v := ?_) (a' := ?_) rfl rfl (by rfl) ?_ ?_ ?_; rotate_left 2; (· intro w'; go_simp; with_reducible rfl); (· simp only [Act.put, List.setIfInBounds_toArray, List.set_cons_zero, List.set_cons_succ, kw64, kw32]; rfl))
              (refine sB (v := ?_) (a' := ?_) rfl rfl (by rfl) ?_ ?_ ?_; rotate_left 2; (· intro w1 hg; have c9 := (HO.up hg).cell 1 rfl; go_simp; with_reducible rfl); (· simp only [Act.put, List.setIfInBounds_toArray, List.set_cons_zero, List.set_cons_succ, kw64, kw32]; rfl))
              (refine sD (v := ?_) (a' := ?_) Try.func49 rfl rfl (by rfl) rfl (by kernel_rfl) rfl (by rfl) ?_ ?_ ?_; rotate_left 2; (· intro w1 hg; exact HP.out w1); (· simp only [Act.put, List.setIfInBounds_toArray, List.set_cons_zero, List.set_cons_succ, kw64, kw32]; rfl))
              (refine sB (v := ?_) (a' := ?_) rfl rfl (by rfl) ?_ ?_ ?_; rotate_left 2; (· intro w1 hg; have c9 := (HO.up hg).cell 1 rfl; go_simp; with_reducible rfl); (· simp only [Act.put, List.setIfInBounds_toArray, List.set_cons_zero, List.set_cons_succ, kw64, kw32]; rfl))
              (refine sD (v := ?_) (a' := ?_) Try.func49 rfl rfl (by rfl) rfl (by kernel_rfl) rfl (by rfl) ?_ ?_ ?_; rotate_left 2; (· intro w1 hg; exact HRE.out w1); (· simp only [Act.put, List.setIfInBounds_toArray, List.set_cons_zero, List.set_cons_succ, kw64, kw32]; rfl))
              iterate 2 (refine sP (v := ?_) (a' := ?_) rfl rfl (by rfl) ?_ ?_ ?_; rotate_left 2; (· intro w'; go_simp; with_reducible rfl); (· simp only [Act.put, List.setIfInBounds_toArray, List.set_cons_zero, List.set_cons_succ, kw64, kw32]; rfl))
              (refine sB (v := ?_) (a' := ?_) rfl rfl (by rfl) ?_ ?_ ?_; rotate_left 2; (· intro w1 hg; have c9 := (HO.up hg).cell 1 rfl; go_simp; with_reducible rfl); (· simp only [Act.put, List.setIfInBounds_toArray, List.set_cons_zero, List.set_cons_succ, kw64, kw32]; rfl))
              (refine sD (v := ?_) (a' := ?_) Try.func49 rfl rfl (by rfl) rfl (by kernel_rfl) rfl (by rfl) ?_ ?_ ?_; rotate_left 2; (· intro w1 hg; exact HSE.out w1); (· simp only [Act.put, List.setIfInBounds_toArray, List.set_cons_zero, List.set_cons_succ, kw64, kw32]; rfl))
              (refine sP (v := ?_) (a' := ?_) rfl rfl (by rfl) ?_ ?_ ?_; rotate_left 2; (· intro w'; go_simp; with_reducible rfl); (· simp only [Act.put, List.setIfInBounds_toArray, List.set_cons_zero, List.set_cons_succ, kw64, kw32]; rfl))
              (refine sP (v := .bool false) (a' := ?_) rfl rfl (by rfl) ?_ ?_ ?_; rotate_left 1; (· intro w'; go_simp; first | done | rw [HE.out] | simpa using HE.out); (· simp only [Act.put, List.setIfInBounds_toArray, List.set_cons_zero, List.set_cons_succ, kw64, kw32]; rfl))
              iterate 2 (refine sP (v := ?_) (a' := ?_) rfl rfl (by rfl) ?_ ?_ ?_; rotate_left 2; (· intro w'; go_simp; with_reducible rfl); (· simp only [Act.put, List.setIfInBounds_toArray, List.set_cons_zero, List.set_cons_succ, kw64, kw32]; rfl))
              iterate 3 (refine sO (a' := ?_) rfl rfl (by rfl) ?_ ?_; rotate_left 1; (· simp only [Act.put, List.setIfInBounds_toArray, List.set_cons_zero, List.set_cons_succ, kw64, kw32]; rfl))
              iterate 2 (refine sP (v := ?_) (a' := ?_) rfl rfl (by rfl) ?_ ?_ ?_; rotate_left 2; (· intro w'; go_simp; with_reducible rfl); (· simp only [Act.put, List.setIfInBounds_toArray, List.set_cons_zero, List.set_cons_succ, kw64, kw32]; rfl))
              iterate 4 (refine sO (a' := ?_) rfl rfl (by rfl) ?_ ?_; rotate_left 1; (· simp only [Act.put, List.setIfInBounds_toArray, List.set_cons_zero, List.set_cons_succ, kw64, kw32]; rfl))
              iterate 2 (refine sP (v := ?_) (a' := ?_) rfl rfl (by rfl) ?_ ?_ ?_; rotate_left 2; (· intro w'; go_simp; with_reducible rfl); (· simp only [Act.put, List.setIfInBounds_toArray, List.set_cons_zero, List.set_cons_succ, kw64, kw32]; rfl))
              iterate 5 (refine sO (a' := ?_) rfl rfl (by rfl) ?_ ?_; rotate_left 1; (· simp only [Act.put, List.setIfInBounds_toArray, List.set_cons_zero, List.set_cons_succ, kw64, kw32]; rfl))
              iterate 2 (refine sP (v := ?_) (a' := ?_) rfl rfl (by rfl) ?_ ?_ ?_; rotate_left 2; (· intro w'; go_simp; with_reducible rfl); (· simp only [Act.put, List.setIfInBounds_toArray, List.set_cons_zero, List.set_cons_succ, kw64, kw32]; rfl))
              iterate 8 (refine sO (a' := ?_) rfl rfl (by rfl) ?_ ?_; rotate_left 1; (· simp only [Act.put, List.setIfInBounds_toArray, List.set_cons_zero, List.set_cons_succ, kw64, kw32]; rfl))
              iterate 2 (refine sP (v := ?_) (a' := ?_) rfl rfl (by rfl) ?_ ?_ ?_; rotate_left 2; (· intro w'; go_simp; with_reducible rfl); (· simp only [Act.put, List.setIfInBounds_toArray, List.set_cons_zero, List.set_cons_succ, kw64, kw32]; rfl))
              intro w1 hg
              replace HO := HO.up hg
              clear hg
              go_wp2
              go_ret
              exact ⟨ret_congr (by rw [HR.out]; rfl), HO.below⟩
            · cases bk
              · skip
                refine kall [(0, true, some 27), (1, true, some 28), (2, true, some 29), (3, true, some 30), (4, true, some 31), (5, true, some 32), (6, true, some 33), (7, true, some 34), (8, true, some 35), (9, true, some 36), (12, true, some 39), (10, true, some 37), (11, true, some 38), (13, true, some 40), (14, true, some 41), (15, true, some 42), (16, true, some 43), (17, true, some 44), (18, true, some 45), (19, true, some 46), (20, true, some 47), (21, true, some 48), (22, true, some 49), (23, true, some 50), (24, true, some 51), (25, true, some 52), (26, true, some 53), (27, true, some 54), (28, true, some 55), (29, true, some 56), (30, true, some 57), (31, true, some 58), (32, true, some 59), (33, true, some 60), (34, true, some 61), (36, true, some 63), (35, true, some 62), (37, true, some 64), (38, true, some 65), (39, true, some 66), (40, true, some 67), (41, true, some 68), (43, true, some 70), (45, true, some 72), (42, true, some 69), (44, true, some 71), (46, true, some 73), (47, true, some 74), (48, true, some 75), (49, true, some 76), (50, true, some 2)] (by kernel_rfl) rfl (by kernel_rfl) rfl (fun _ _ _ _ _ h => h) ?_
                (refine sP (v := ?_) (a' := ?_) rfl rfl (by rfl) ?_ ?_ ?_; rotate_left 2; (· intro w'; go_simp; with_reducible rfl); (· simp only [Act.put, List.setIfInBounds_toArray, List.set_cons_zero, List.set_cons_succ, kw64, kw32]; rfl))
                (refine sB (v := ?_) (a' := ?_) rfl rfl (by rfl) ?_ ?_ ?_; rotate_left 2; (· intro w1 hg; have c9 := (HO.up hg).cell 1 rfl; go_simp; with_reducible rfl); (· simp only [Act.put, List.setIfInBounds_toArray, List.set_cons_zero, List.set_cons_succ, kw64, kw32]; rfl))
                (refine sD (v := ?_) (a' := ?_) Try.func48 rfl rfl (by rfl) rfl (by kernel_rfl) rfl (by rfl) ?_ ?_ ?_; rotate_left 2; (· intro w1 hg; exact H0.out w1); (· simp only [Act.put, List.setIfInBounds_toArray, List.set_cons_zero, List.set_cons_succ, kw64, kw32]; rfl))
                iterate 2 (refine sP (v := ?_) (a' := ?_) rfl rfl (by rfl) ?_ ?_ ?_; rotate_left 2; (· intro w'; go_simp; with_reducible rfl); (· simp only [Act.put, List.setIfInBounds_toArray, List.set_cons_zero, List.set_cons_succ, kw64, kw32]; rfl))
                (refine sB (v := ?_) (a' := ?_) rfl rfl (by rfl) ?_ ?_ ?_; rotate_left 2; (· intro w1 hg; have c9 := (HO.up hg).cell 1 rfl; go_simp; with_reducible rfl); (· simp only [Act.put, List.setIfInBounds_toArray, List.set_cons_zero, List.set_cons_succ, kw64, kw32]; rfl))
                (refine sD (v := ?_) (a' := ?_) Try.func48 rfl rfl (by rfl) rfl (by kernel_rfl) rfl (by rfl) ?_ ?_ ?_; rotate_left 2; (· intro w1 hg; exact H1.out w1); (· simp only [Act.put, List.setIfInBounds_toArray, List.set_cons_zero, List.set_cons_succ, kw64, kw32]; rfl))
                iterate 4 (refine sP (v := ?_) (a' := ?_) rfl rfl (by rfl) ?_ ?_ ?_; rotate_left 2; (· intro w'; go_simp; with_reducible rfl); (· simp only [Act.put, List.setIfInBounds_toArray, List.set_cons_zero, List.set_cons_succ, kw64, kw32]; rfl))
                (refine sB (v := ?_) (a' := ?_) rfl rfl (by rfl) ?_ ?_ ?_; rotate_left 2; (· intro w1 hg; have c9 := (HO.up hg).cell 1 rfl; go_simp; with_reducible rfl); (· simp only [Act.put, List.setIfInBounds_toArray, List.set_cons_zero, List.set_cons_succ, kw64, kw32]; rfl))
                (refine sD (v := ?_) (a' := ?_) Try.func49 rfl rfl (by rfl) rfl (by kernel_rfl) rfl (by rfl) ?_ ?_ ?_; rotate_left 2; (· intro w1 hg; exact HP.out w1); (· simp only [Act.put, List.setIfInBounds_toArray, List.set_cons_zero, List.set_cons_succ, kw64, kw32]; rfl))
                (refine sB (v := ?_) (a' := ?_) rfl rfl (by rfl) ?_ ?_ ?_; rotate_left 2; (· intro w1 hg; have c9 := (HO.up hg).cell 1 rfl; go_simp; with_reducible rfl); (· simp only [Act.put, List.setIfInBounds_toArray, List.set_cons_zero, List.set_cons_succ, kw64, kw32]; rfl))
                (refine sD (v := ?_) (a' := ?_) Try.func49 rfl rfl (by rfl) rfl (by kernel_rfl) rfl (by rfl) ?_ ?_ ?_; rotate_left 2; (· intro w1 hg; exact HRE.out w1); (· simp only [Act.put, List.setIfInBounds_toArray, List.set_cons_zero, List.set_cons_succ, kw64, kw32]; rfl))
                iterate 2 (refine sP (v := ?_) (a' := ?_) rfl rfl (by rfl) ?_ ?_ ?_; rotate_left 2; (· intro w'; go_simp; with_reducible rfl); (· simp only [Act.put, List.setIfInBounds_toArray, List.set_cons_zero, List.set_cons_succ, kw64, kw32]; rfl))
                (refine sB (v := ?_) (a' := ?_) rfl rfl (by rfl) ?_ ?_ ?_; rotate_left 2; (· intro w1 hg; have c9 := (HO.up hg).cell 1 rfl; go_simp; with_reducible rfl); (· simp only [Act.put, List.setIfInBounds_toArray, List.set_cons_zero, List.set_cons_succ, kw64, kw32]; rfl))
                (refine sD (v := ?_) (a' := ?_) Try.func49 rfl rfl (by rfl) rfl (by kernel_rfl) rfl (by rfl) ?_ ?_ ?_; rotate_left 2; (· intro w1 hg; exact HSE.out w1); (· simp only [Act.put, List.setIfInBounds_toArray, List.set_cons_zero, List.set_cons_succ, kw64, kw32]; rfl))
                (refine sP (v := ?_) (a' := ?_) rfl rfl (by rfl) ?_ ?_ ?_; rotate_left 2; (· intro w'; go_simp; with_reducible rfl); (· simp only [Act.put, List.setIfInBounds_toArray, List.set_cons_zero, List.set_cons_succ, kw64, kw32]; rfl))
                (refine sP (v := .bool true) (a' := ?_) rfl rfl (by rfl) ?_ ?_ ?_; rotate_left 1; (· intro w'; go_simp; first | done | rw [HE.out] | simpa using HE.out); (· simp only [Act.put, List.setIfInBounds_toArray, List.set_cons_zero, List.set_cons_succ, kw64, kw32]; rfl))
                iterate 3 (refine sP (v := ?_) (a' := ?_) rfl rfl (by rfl) ?_ ?_ ?_; rotate_left 2; (· intro w'; go_simp; with_reducible rfl); (· simp only [Act.put, List.setIfInBounds_toArray, List.set_cons_zero, List.set_cons_succ, kw64, kw32]; rfl))
                (refine sB (v := ?_) (a' := ?_) rfl rfl (by rfl) ?_ ?_ ?_; rotate_left 2; (· intro w1 hg; have c9 := (HO.up hg).cell 1 rfl; go_simp; with_reducible rfl); (· simp only [Act.put, List.setIfInBounds_toArray, List.set_cons_zero, List.set_cons_succ, kw64, kw32]; rfl))
                (refine sD (v := ?_) (a' := ?_) Try.func51 rfl rfl (by rfl) rfl (by kernel_rfl) rfl (by rfl) ?_ ?_ ?_; rotate_left 2; (· intro w1 hg; exact HK.out w1 ((HO.up hg).below)); (· simp only [Act.put, List.setIfInBounds_toArray, List.set_cons_zero, List.set_cons_succ, kw64, kw32]; rfl))
                iterate 2 (refine sP (v := ?_) (a' := ?_) rfl rfl (by rfl) ?_ ?_ ?_; rotate_left 2; (· intro w'; go_simp; with_reducible rfl); (· simp only [Act.put, List.setIfInBounds_toArray, List.set_cons_zero, List.set_cons_succ, kw64, kw32]; rfl))
                iterate 4 (refine sO (a' := ?_) rfl rfl (by rfl) ?_ ?_; rotate_left 1; (· simp only [Act.put, List.setIfInBounds_toArray, List.set_cons_zero, List.set_cons_succ, kw64, kw32]; rfl))
                iterate 2 (refine sP (v := ?_) (a' := ?_) rfl rfl (by rfl) ?_ ?_ ?_; rotate_left 2; (· intro w'; go_simp; with_reducible rfl); (· simp only [Act.put, List.setIfInBounds_toArray, List.set_cons_zero, List.set_cons_succ, kw64, kw32]; rfl))
                iterate 5 (refine sO (a' := ?_) rfl rfl (by rfl) ?_ ?_; rotate_left 1; (· simp only [Act.put, List.setIfInBounds_toArray, List.set_cons_zero, List.set_cons_succ, kw64, kw32]; rfl))
                iterate 2 (refine sP (v := ?_) (a' := ?_) rfl rfl (by rfl) ?_ ?_ ?_; rotate_left 2; (· intro w'; go_simp; with_reducible rfl); (· simp only [Act.put, List.setIfInBounds_toArray, List.set_cons_zero, List.set_cons_succ, kw64, kw32]; rfl))
                iterate 8 (refine sO (a' := ?_) rfl rfl (by rfl) ?_ ?_; rotate_left 1; (· simp only [Act.put, List.setIfInBounds_toArray, List.set_cons_zero, List.set_cons_succ, kw64, kw32]; rfl))
                iterate 2 (refine sP (v := ?_) (a' := ?_) rfl rfl (by rfl) ?_ ?_ ?_; rotate_left 2; (· intro w'; go_simp; with_reducible rfl); (· simp only [Act.put, List.setIfInBounds_toArray, List.set_cons_zero, List.set_cons_succ, kw64, kw32]; rfl))
                intro w1 hg
                replace HO := HO.up hg
                clear hg
                go_wp2
                go_ret
                exact ⟨ret_congr (by rw [HR.out]; rfl), HO.below⟩
              · by_cases hu : un ≤ 40
                · rw [decide_eq_true hu] at HR
                  have kU : (un : Int) ≤ 40 := by omega
                  clear hu
                  cases bo
                  · by_cases hm : max (max st gt) pv < 4294967296
                    · rw [decide_eq_true hm] at HR
                      have kM : max (st : Int) (max gt pv) < 4294967296 := by omega
                      clear hm
                      refine kall [(0, true, some 27), (1, true, some 28), (2, true, some 29), (3, true, some 30), (4, true, some 31), (5, true, some 32), (6, true, some 33), (7, true, some 34), (8, true, some 35), (9, true, some 36), (12, true, some 39), (10, true, some 37), (11, true, some 38), (13, true, some 40), (14, true, some 41), (15, true, some 42), (16, true, some 43), (17, true, some 44), (18, true, some 45), (19, true, some 46), (20, true, some 47), (21, true, some 48), (22, true, some 49), (23, true, some 50), (24, true, some 51), (25, true, some 52), (26, true, some 53), (27, true, some 54), (28, true, some 55), (29, true, some 56), (30, true, some 57), (31, true, some 58), (32, true, some 59), (33, true, some 60), (34, true, some 61), (36, true, some 63), (35, true, some 62), (37, true, some 64), (38, true, some 65), (39, true, some 66), (40, true, some 67), (41, true, some 68), (43, true, some 70), (45, true, some 72), (42, true, some 69), (44, true, some 71), (46, true, some 73), (47, true, some 74), (48, true, some 75), (49, true, some 76), (50, true, some 2)] (by kernel_rfl) rfl (by kernel_rfl) rfl (fun _ _ _ _ _ h => h) ?_
                      (refine sP (v := ?_) (a' := ?_) rfl rfl (by rfl) ?_ ?_ ?_; rotate_left 2; (· intro w'; go_simp; with_reducible rfl); (· simp only [Act.put, List.setIfInBounds_toArray, List.set_cons_zero, List.set_cons_succ, kw64, kw32]; rfl))
                      (refine sB (v := ?_) (a' := ?_) rfl rfl (by rfl) ?_ ?_ ?_; rotate_left 2; (· intro w1 hg; have c9 := (HO.up hg).cell 1 rfl; go_simp; with_reducible rfl); (· simp only [Act.put, List.setIfInBounds_toArray, List.set_cons_zero, List.set_cons_succ, kw64, kw32]; rfl))
                      (refine sD (v := ?_) (a' := ?_) Try.func48 rfl rfl (by rfl) rfl (by kernel_rfl) rfl (by rfl) ?_ ?_ ?_; rotate_left 2; (· intro w1 hg; exact H0.out w1); (· simp only [Act.put, List.setIfInBounds_toArray, List.set_cons_zero, List.set_cons_succ, kw64, kw32]; rfl))
                      iterate 2 (refine sP (v := ?_) (a' := ?_) rfl rfl (by rfl) ?_ ?_ ?_; rotate_left 2; (· intro w'; go_simp; with_reducible rfl); (· simp only [Act.put, List.setIfInBounds_toArray, List.set_cons_zero, List.set_cons_succ, kw64, kw32]; rfl))
                      (refine sB (v := ?_) (a' := ?_) rfl rfl (by rfl) ?_ ?_ ?_; rotate_left 2; (· intro w1 hg; have c9 := (HO.up hg).cell 1 rfl; go_simp; with_reducible rfl); (· simp only [Act.put, List.setIfInBounds_toArray, List.set_cons_zero, List.set_cons_succ, kw64, kw32]; rfl))
                      (refine sD (v := ?_) (a' := ?_) Try.func48 rfl rfl (by rfl) rfl (by kernel_rfl) rfl (by rfl) ?_ ?_ ?_; rotate_left 2; (· intro w1 hg; exact H1.out w1); (· simp only [Act.put, List.setIfInBounds_toArray, List.set_cons_zero, List.set_cons_succ, kw64, kw32]; rfl))
                      iterate 4 (refine sP (v := ?_) (a' := ?_) rfl rfl (by rfl) ?_ ?_ ?_; rotate_left 2; (· intro w'; go_simp; with_reducible rfl); (· simp only [Act.put, List.setIfInBounds_toArray, List.set_cons_zero, List.set_cons_succ, kw64, kw32]; rfl))
                      (refine sB (v := ?_) (a' := ?_) rfl rfl (by rfl) ?_ ?_ ?_; rotate_left 2; (· intro w1 hg; have c9 := (HO.up hg).cell 1 rfl; go_simp; with_reducible rfl); (· simp only [Act.put, List.setIfInBounds_toArray, List.set_cons_zero, List.set_cons_succ, kw64, kw32]; rfl))
                      (refine sD (v := ?_) (a' := ?_) Try.func49 rfl rfl (by rfl) rfl (by kernel_rfl) rfl (by rfl) ?_ ?_ ?_; rotate_left 2; (· intro w1 hg; exact HP.out w1); (· simp only [Act.put, List.setIfInBounds_toArray, List.set_cons_zero, List.set_cons_succ, kw64, kw32]; rfl))
                      (refine sB (v := ?_) (a' := ?_) rfl rfl (by rfl) ?_ ?_ ?_; rotate_left 2; (· intro w1 hg; have c9 := (HO.up hg).cell 1 rfl; go_simp; with_reducible rfl); (· simp only [Act.put, List.setIfInBounds_toArray, List.set_cons_zero, List.set_cons_succ, kw64, kw32]; rfl))
                      (refine sD (v := ?_) (a' := ?_) Try.func49 rfl rfl (by rfl) rfl (by kernel_rfl) rfl (by rfl) ?_ ?_ ?_; rotate_left 2; (· intro w1 hg; exact HRE.out w1); (· simp only [Act.put, List.setIfInBounds_toArray, List.set_cons_zero, List.set_cons_succ, kw64, kw32]; rfl))
                      iterate 2 (refine sP (v := ?_) (a' := ?_) rfl rfl (by rfl) ?_ ?_ ?_; rotate_left 2; (· intro w'; go_simp; with_reducible rfl); (· simp only [Act.put, List.setIfInBounds_toArray, List.set_cons_zero, List.set_cons_succ, kw64, kw32]; rfl))
                      (refine sB (v := ?_) (a' := ?_) rfl rfl (by rfl) ?_ ?_ ?_; rotate_left 2; (· intro w1 hg; have c9 := (HO.up hg).cell 1 rfl; go_simp; with_reducible rfl); (· simp only [Act.put, List.setIfInBounds_toArray, List.set_cons_zero, List.set_cons_succ, kw64, kw32]; rfl))
                      (refine sD (v := ?_) (a' := ?_) Try.func49 rfl rfl (by rfl) rfl (by kernel_rfl) rfl (by rfl) ?_ ?_ ?_; rotate_left 2; (· intro w1 hg; exact HSE.out w1); (· simp only [Act.put, List.setIfInBounds_toArray, List.set_cons_zero, List.set_cons_succ, kw64, kw32]; rfl))
                      (refine sP (v := ?_) (a' := ?_) rfl rfl (by rfl) ?_ ?_ ?_; rotate_left 2; (· intro w'; go_simp; with_reducible rfl); (· simp only [Act.put, List.setIfInBounds_toArray, List.set_cons_zero, List.set_cons_succ, kw64, kw32]; rfl))
                      (refine sP (v := .bool true) (a' := ?_) rfl rfl (by rfl) ?_ ?_ ?_; rotate_left 1; (· intro w'; go_simp; first | done | rw [HE.out] | simpa using HE.out); (· simp only [Act.put, List.setIfInBounds_toArray, List.set_cons_zero, List.set_cons_succ, kw64, kw32]; rfl))
                      iterate 3 (refine sP (v := ?_) (a' := ?_) rfl rfl (by rfl) ?_ ?_ ?_; rotate_left 2; (· intro w'; go_simp; with_reducible rfl); (· simp only [Act.put, List.setIfInBounds_toArray, List.set_cons_zero, List.set_cons_succ, kw64, kw32]; rfl))
                      (refine sB (v := ?_) (a' := ?_) rfl rfl (by rfl) ?_ ?_ ?_; rotate_left 2; (· intro w1 hg; have c9 := (HO.up hg).cell 1 rfl; go_simp; with_reducible rfl); (· simp only [Act.put, List.setIfInBounds_toArray, List.set_cons_zero, List.set_cons_succ, kw64, kw32]; rfl))
                      (refine sD (v := ?_) (a' := ?_) Try.func51 rfl rfl (by rfl) rfl (by kernel_rfl) rfl (by rfl) ?_ ?_ ?_; rotate_left 2; (· intro w1 hg; exact HK.out w1 ((HO.up hg).below)); (· simp only [Act.put, List.setIfInBounds_toArray, List.set_cons_zero, List.set_cons_succ, kw64, kw32]; rfl))
                      iterate 3 (refine sP (v := ?_) (a' := ?_) rfl rfl (by rfl) ?_ ?_ ?_; rotate_left 2; (· intro w'; go_simp; with_reducible rfl); (· simp only [Act.put, List.setIfInBounds_toArray, List.set_cons_zero, List.set_cons_succ, kw64, kw32]; rfl))
                      (refine sB (v := ?_) (a' := ?_) rfl rfl (by rfl) ?_ ?_ ?_; rotate_left 2; (· intro w1 hg; have c9 := (HO.up hg).cell 1 rfl; go_simp; with_reducible rfl); (· simp only [Act.put, List.setIfInBounds_toArray, List.set_cons_zero, List.set_cons_succ, kw64, kw32]; rfl))
                      (refine sP (v := ?_) (a' := ?_) rfl rfl (by rfl) ?_ ?_ ?_; rotate_left 2; (· intro w'; go_simp; with_reducible rfl); (· simp only [Act.put, List.setIfInBounds_toArray, List.set_cons_zero, List.set_cons_succ, kw64, kw32]; rfl))
                      (refine sP (v := .bool true) (a' := ?_) rfl rfl (by rfl) ?_ ?_ ?_; rotate_left 1; (· intro w'; go_simp; first | done | rw [decide_eq_true kU]); (· simp only [Act.put, List.setIfInBounds_toArray, List.set_cons_zero, List.set_cons_succ, kw64, kw32]; rfl))
                      iterate 4 (refine sP (v := ?_) (a' := ?_) rfl rfl (by rfl) ?_ ?_ ?_; rotate_left 2; (· intro w'; go_simp; with_reducible rfl); (· simp only [Act.put, List.setIfInBounds_toArray, List.set_cons_zero, List.set_cons_succ, kw64, kw32]; rfl))
                      (refine sB (v := ?_) (a' := ?_) rfl rfl (by rfl) ?_ ?_ ?_; rotate_left 2; (· intro w1 hg; have c9 := (HO.up hg).cell 1 rfl; go_simp; with_reducible rfl); (· simp only [Act.put, List.setIfInBounds_toArray, List.set_cons_zero, List.set_cons_succ, kw64, kw32]; rfl))
                      (refine sD (v := ?_) (a' := ?_) Try.func29 rfl rfl (by rfl) rfl (by kernel_rfl) rfl (by rfl) ?_ ?_ ?_; rotate_left 2; (· intro w1 hg; exact HC.out w1 ((HO.up hg).below)); (· simp only [Act.put, List.setIfInBounds_toArray, List.set_cons_zero, List.set_cons_succ, kw64, kw32]; rfl))
                      iterate 6 (refine sP (v := ?_) (a' := ?_) rfl rfl (by rfl) ?_ ?_ ?_; rotate_left 2; (· intro w'; go_simp; with_reducible rfl); (· simp only [Act.put, List.setIfInBounds_toArray, List.set_cons_zero, List.set_cons_succ, kw64, kw32]; rfl))
                      iterate 3 (refine sB (v := ?_) (a' := ?_) rfl rfl (by rfl) ?_ ?_ ?_; rotate_left 2; (· intro w1 hg; have c9 := (HO.up hg).cell 1 rfl; go_simp; with_reducible rfl); (· simp only [Act.put, List.setIfInBounds_toArray, List.set_cons_zero, List.set_cons_succ, kw64, kw32]; rfl))
                      (refine sP (v := .int .u64 (max (st : Int) (max gt pv))) (a' := ?_) rfl rfl (by rfl) ?_ ?_ ?_; rotate_left 1; (· intro w'; go_simp; first | done | rfl | exact max3 _ _ _); (· simp only [Act.put, List.setIfInBounds_toArray, List.set_cons_zero, List.set_cons_succ, kw64, kw32]; rfl))
                      (refine sP (v := .bool true) (a' := ?_) rfl rfl (by rfl) ?_ ?_ ?_; rotate_left 1; (· intro w'; go_simp; first | done | rw [decide_eq_true kM]); (· simp only [Act.put, List.setIfInBounds_toArray, List.set_cons_zero, List.set_cons_succ, kw64, kw32]; rfl))
                      iterate 2 (refine sP (v := ?_) (a' := ?_) rfl rfl (by rfl) ?_ ?_ ?_; rotate_left 2; (· intro w'; go_simp; with_reducible rfl); (· simp only [Act.put, List.setIfInBounds_toArray, List.set_cons_zero, List.set_cons_succ, kw64, kw32]; rfl))
                      intro w1 hg
                      replace HO := HO.up hg
                      clear hg
                      go_wp2
                      go_ret
                      exact ⟨ret_congr (by rw [HR.out]; rfl), HO.below⟩
                    · rw [decide_eq_false hm] at HR
                      have kM : ¬ (max (st : Int) (max gt pv) < 4294967296) := by omega
                      clear hm
                      refine kall [(0, true, some 27), (1, true, some 28), (2, true, some 29), (3, true, some 30), (4, true, some 31), (5, true, some 32), (6, true, some 33), (7, true, some 34), (8, true, some 35), (9, true, some 36), (12, true, some 39), (10, true, some 37), (11, true, some 38), (13, true, some 40), (14, true, some 41), (15, true, some 42), (16, true, some 43), (17, true, some 44), (18, true, some 45), (19, true, some 46), (20, true, some 47), (21, true, some 48), (22, true, some 49), (23, true, some 50), (24, true, some 51), (25, true, some 52), (26, true, some 53), (27, true, some 54), (28, true, some 55), (29, true, some 56), (30, true, some 57), (31, true, some 58), (32, true, some 59), (33, true, some 60), (34, true, some 61), (36, true, some 63), (35, true, some 62), (37, true, some 64), (38, true, some 65), (39, true, some 66), (40, true, some 67), (41, true, some 68), (43, true, some 70), (45, true, some 72), (42, true, some 69), (44, true, some 71), (46, true, some 73), (47, true, some 74), (48, true, some 75), (49, true, some 76), (50, true, some 2)] (by kernel_rfl) rfl (by kernel_rfl) rfl (fun _ _ _ _ _ h => h) ?_
                      (refine sP (v := ?_) (a' := ?_) rfl rfl (by rfl) ?_ ?_ ?_; rotate_left 2; (· intro w'; go_simp; with_reducible rfl); (· simp only [Act.put, List.setIfInBounds_toArray, List.set_cons_zero, List.set_cons_succ, kw64, kw32]; rfl))
                      (refine sB (v := ?_) (a' := ?_) rfl rfl (by rfl) ?_ ?_ ?_; rotate_left 2; (· intro w1 hg; have c9 := (HO.up hg).cell 1 rfl; go_simp; with_reducible rfl); (· simp only [Act.put, List.setIfInBounds_toArray, List.set_cons_zero, List.set_cons_succ, kw64, kw32]; rfl))
                      (refine sD (v := ?_) (a' := ?_) Try.func48 rfl rfl (by rfl) rfl (by kernel_rfl) rfl (by rfl) ?_ ?_ ?_; rotate_left 2; (· intro w1 hg; exact H0.out w1); (· simp only [Act.put, List.setIfInBounds_toArray, List.set_cons_zero, List.set_cons_succ, kw64, kw32]; rfl))
                      iterate 2 (refine sP (v := ?_) (a' := ?_) rfl rfl (by rfl) ?_ ?_ ?_; rotate_left 2; (· intro w'; go_simp; with_reducible rfl); (· simp only [Act.put, List.setIfInBounds_toArray, List.set_cons_zero, List.set_cons_succ, kw64, kw32]; rfl))
                      (refine sB (v := ?_) (a' := ?_) rfl rfl (by rfl) ?_ ?_ ?_; rotate_left 2; (· intro w1 hg; have c9 := (HO.up hg).cell 1 rfl; go_simp; with_reducible rfl); (· simp only [Act.put, List.setIfInBounds_toArray, List.set_cons_zero, List.set_cons_succ, kw64, kw32]; rfl))
                      (refine sD (v := ?_) (a' := ?_) Try.func48 rfl rfl (by rfl) rfl (by kernel_rfl) rfl (by rfl) ?_ ?_ ?_; rotate_left 2; (· intro w1 hg; exact H1.out w1); (· simp only [Act.put, List.setIfInBounds_toArray, List.set_cons_zero, List.set_cons_succ, kw64, kw32]; rfl))
                      iterate 4 (refine sP (v := ?_) (a' := ?_) rfl rfl (by rfl) ?_ ?_ ?_; rotate_left 2; (· intro w'; go_simp; with_reducible rfl); (· simp only [Act.put, List.setIfInBounds_toArray, List.set_cons_zero, List.set_cons_succ, kw64, kw32]; rfl))
                      (refine sB (v := ?_) (a' := ?_) rfl rfl (by rfl) ?_ ?_ ?_; rotate_left 2; (· intro w1 hg; have c9 := (HO.up hg).cell 1 rfl; go_simp; with_reducible rfl); (· simp only [Act.put, List.setIfInBounds_toArray, List.set_cons_zero, List.set_cons_succ, kw64, kw32]; rfl))
                      (refine sD (v := ?_) (a' := ?_) Try.func49 rfl rfl (by rfl) rfl (by kernel_rfl) rfl (by rfl) ?_ ?_ ?_; rotate_left 2; (· intro w1 hg; exact HP.out w1); (· simp only [Act.put, List.setIfInBounds_toArray, List.set_cons_zero, List.set_cons_succ, kw64, kw32]; rfl))
                      (refine sB (v := ?_) (a' := ?_) rfl rfl (by rfl) ?_ ?_ ?_; rotate_left 2; (· intro w1 hg; have c9 := (HO.up hg).cell 1 rfl; go_simp; with_reducible rfl); (· simp only [Act.put, List.setIfInBounds_toArray, List.set_cons_zero, List.set_cons_succ, kw64, kw32]; rfl))
                      (refine sD (v := ?_) (a' := ?_) Try.func49 rfl rfl (by rfl) rfl (by kernel_rfl) rfl (by rfl) ?_ ?_ ?_; rotate_left 2; (· intro w1 hg; exact HRE.out w1); (· simp only [Act.put, List.setIfInBounds_toArray, List.set_cons_zero, List.set_cons_succ, kw64, kw32]; rfl))
                      iterate 2 (refine sP (v := ?_) (a' := ?_) rfl rfl (by rfl) ?_ ?_ ?_; rotate_left 2; (· intro w'; go_simp; with_reducible rfl); (· simp only [Act.put, List.setIfInBounds_toArray, List.set_cons_zero, List.set_cons_succ, kw64, kw32]; rfl))
                      (refine sB (v := ?_) (a' := ?_) rfl rfl (by rfl) ?_ ?_ ?_; rotate_left 2; (· intro w1 hg; have c9 := (HO.up hg).cell 1 rfl; go_simp; with_reducible rfl); (· simp only [Act.put, List.setIfInBounds_toArray, List.set_cons_zero, List.set_cons_succ, kw64, kw32]; rfl))
                      (refine sD (v := ?_) (a' := ?_) Try.func49 rfl rfl (by rfl) rfl (by kernel_rfl) rfl (by rfl) ?_ ?_ ?_; rotate_left 2; (· intro w1 hg; exact HSE.out w1); (· simp only [Act.put, List.setIfInBounds_toArray, List.set_cons_zero, List.set_cons_succ, kw64, kw32]; rfl))
                      (refine sP (v := ?_) (a' := ?_) rfl rfl (by rfl) ?_ ?_ ?_; rotate_left 2; (· intro w'; go_simp; with_reducible rfl); (· simp only [Act.put, List.setIfInBounds_toArray, List.set_cons_zero, List.set_cons_succ, kw64, kw32]; rfl))
                      (refine sP (v := .bool true) (a' := ?_) rfl rfl (by rfl) ?_ ?_ ?_; rotate_left 1; (· intro w'; go_simp; first | done | rw [HE.out] | simpa using HE.out); (· simp only [Act.put, List.setIfInBounds_toArray, List.set_cons_zero, List.set_cons_succ, kw64, kw32]; rfl))
                      iterate 3 (refine sP (v := ?_) (a' := ?_) rfl rfl (by rfl) ?_ ?_ ?_; rotate_left 2; (· intro w'; go_simp; with_reducible rfl); (· simp only [Act.put, List.setIfInBounds_toArray, List.set_cons_zero, List.set_cons_succ, kw64, kw32]; rfl))
                      (refine sB (v := ?_) (a' := ?_) rfl rfl (by rfl) ?_ ?_ ?_; rotate_left 2; (· intro w1 hg; have c9 := (HO.up hg).cell 1 rfl; go_simp; with_reducible rfl); (· simp only [Act.put, List.setIfInBounds_toArray, List.set_cons_zero, List.set_cons_succ, kw64, kw32]; rfl))
                      (refine sD (v := ?_) (a' := ?_) Try.func51 rfl rfl (by rfl) rfl (by kernel_rfl) rfl (by rfl) ?_ ?_ ?_; rotate_left 2; (· intro w1 hg; exact HK.out w1 ((HO.up hg).below)); (· simp only [Act.put, List.setIfInBounds_toArray, List.set_cons_zero, List.set_cons_succ, kw64, kw32]; rfl))
                      iterate 3 (refine sP (v := ?_) (a' := ?_) rfl rfl (by rfl) ?_ ?_ ?_; rotate_left 2; (· intro w'; go_simp; with_reducible rfl); (· simp only [Act.put, List.setIfInBounds_toArray, List.set_cons_zero, List.set_cons_succ, kw64, kw32]; rfl))
                      (refine sB (v := ?_) (a' := ?_) rfl rfl (by rfl) ?_ ?_ ?_; rotate_left 2; (· intro w1 hg; have c9 := (HO.up hg).cell 1 rfl; go_simp; with_reducible rfl); (· simp only [Act.put, List.setIfInBounds_toArray, List.set_cons_zero, List.set_cons_succ, kw64, kw32]; rfl))
                      (refine sP (v := ?_) (a' := ?_) rfl rfl (by rfl) ?_ ?_ ?_; rotate_left 2; (· intro w'; go_simp; with_reducible rfl); (· simp only [Act.put, List.setIfInBounds_toArray, List.set_cons_zero, List.set_cons_succ, kw64, kw32]; rfl))
                      (refine sP (v := .bool true) (a' := ?_) rfl rfl (by rfl) ?_ ?_ ?_; rotate_left 1; (· intro w'; go_simp; first | done | rw [decide_eq_true kU]); (· simp only [Act.put, List.setIfInBounds_toArray, List.set_cons_zero, List.set_cons_succ, kw64, kw32]; rfl))
                      iterate 4 (refine sP (v := ?_) (a' := ?_) rfl rfl (by rfl) ?_ ?_ ?_; rotate_left 2; (· intro w'; go_simp; with_reducible rfl); (· simp only [Act.put, List.setIfInBounds_toArray, List.set_cons_zero, List.set_cons_succ, kw64, kw32]; rfl))
                      (refine sB (v := ?_) (a' := ?_) rfl rfl (by rfl) ?_ ?_ ?_; rotate_left 2; (· intro w1 hg; have c9 := (HO.up hg).cell 1 rfl; go_simp; with_reducible rfl); (· simp only [Act.put, List.setIfInBounds_toArray, List.set_cons_zero, List.set_cons_succ, kw64, kw32]; rfl))
                      (refine sD (v := ?_) (a' := ?_) Try.func29 rfl rfl (by rfl) rfl (by kernel_rfl) rfl (by rfl) ?_ ?_ ?_; rotate_left 2; (· intro w1 hg; exact HC.out w1 ((HO.up hg).below)); (· simp only [Act.put, List.setIfInBounds_toArray, List.set_cons_zero, List.set_cons_succ, kw64, kw32]; rfl))
                      iterate 6 (refine sP (v := ?_) (a' := ?_) rfl rfl (by rfl) ?_ ?_ ?_; rotate_left 2; (· intro w'; go_simp; with_reducible rfl); (· simp only [Act.put, List.setIfInBounds_toArray, List.set_cons_zero, List.set_cons_succ, kw64, kw32]; rfl))
                      iterate 3 (refine sB (v := ?_) (a' := ?_) rfl rfl (by rfl) ?_ ?_ ?_; rotate_left 2; (· intro w1 hg; have c9 := (HO.up hg).cell 1 rfl; go_simp; with_reducible rfl); (· simp only [Act.put, List.setIfInBounds_toArray, List.set_cons_zero, List.set_cons_succ, kw64, kw32]; rfl))
                      (refine sP (v := .int .u64 (max (st : Int) (max gt pv))) (a' := ?_) rfl rfl (by rfl) ?_ ?_ ?_; rotate_left 1; (· intro w'; go_simp; first | done | rfl | exact max3 _ _ _); (· simp only [Act.put, List.setIfInBounds_toArray, List.set_cons_zero, List.set_cons_succ, kw64, kw32]; rfl))
                      (refine sP (v := .bool false) (a' := ?_) rfl rfl (by rfl) ?_ ?_ ?_; rotate_left 1; (· intro w'; go_simp; first | done | rw [decide_eq_false kM]); (· simp only [Act.put, List.setIfInBounds_toArray, List.set_cons_zero, List.set_cons_succ, kw64, kw32]; rfl))
                      iterate 2 (refine sP (v := ?_) (a' := ?_) rfl rfl (by rfl) ?_ ?_ ?_; rotate_left 2; (· intro w'; go_simp; with_reducible rfl); (· simp only [Act.put, List.setIfInBounds_toArray, List.set_cons_zero, List.set_cons_succ, kw64, kw32]; rfl))
                      intro w1 hg
                      replace HO := HO.up hg
                      clear hg
                      go_wp2
                      go_ret
                      exact ⟨ret_congr (by rw [HR.out]; rfl), HO.below⟩
                  · skip
                    refine kall [(0, true, some 27), (1, true, some 28), (2, true, some 29), (3, true, some 30), (4, true, some 31), (5, true, some 32), (6, true, some 33), (7, true, some 34), (8, true, some 35), (9, true, some 36), (12, true, some 39), (10, true, some 37), (11, true, some 38), (13, true, some 40), (14, true, some 41), (15, true, some 42), (16, true, some 43), (17, true, some 44), (18, true, some 45), (19, true, some 46), (20, true, some 47), (21, true, some 48), (22, true, some 49), (23, true, some 50), (24, true, some 51), (25, true, some 52), (26, true, some 53), (27, true, some 54), (28, true, some 55), (29, true, some 56), (30, true, some 57), (31, true, some 58), (32, true, some 59), (33, true, some 60), (34, true, some 61), (36, true, some 63), (35, true, some 62), (37, true, some 64), (38, true, some 65), (39, true, some 66), (40, true, some 67), (41, true, some 68), (43, true, some 70), (45, true, some 72), (42, true, some 69), (44, true, some 71), (46, true, some 73), (47, true, some 74), (48, true, some 75), (49, true, some 76), (50, true, some 2)] (by kernel_rfl) rfl (by kernel_rfl) rfl (fun _ _ _ _ _ h => h) ?_
                    (refine sP (v := ?_) (a' := ?_) rfl rfl (by rfl) ?_ ?_ ?_; rotate_left 2; (· intro w'; go_simp; with_reducible rfl); (· simp only [Act.put, List.setIfInBounds_toArray, List.set_cons_zero, List.set_cons_succ, kw64, kw32]; rfl))
                    (refine sB (v := ?_) (a' := ?_) rfl rfl (by rfl) ?_ ?_ ?_; rotate_left 2; (· intro w1 hg; have c9 := (HO.up hg).cell 1 rfl; go_simp; with_reducible rfl); (· simp only [Act.put, List.setIfInBounds_toArray, List.set_cons_zero, List.set_cons_succ, kw64, kw32]; rfl))
                    (refine sD (v := ?_) (a' := ?_) Try.func48 rfl rfl (by rfl) rfl (by kernel_rfl) rfl (by rfl) ?_ ?_ ?_; rotate_left 2; (· intro w1 hg; exact H0.out w1); (· simp only [Act.put, List.setIfInBounds_toArray, List.set_cons_zero, List.set_cons_succ, kw64, kw32]; rfl))
                    iterate 2 (refine sP (v := ?_) (a' := ?_) rfl rfl (by rfl) ?_ ?_ ?_; rotate_left 2; (· intro w'; go_simp; with_reducible rfl); (· simp only [Act.put, List.setIfInBounds_toArray, List.set_cons_zero, List.set_cons_succ, kw64, kw32]; rfl))
                    (refine sB (v := ?_) (a' := ?_) rfl rfl (by rfl) ?_ ?_ ?_; rotate_left 2; (· intro w1 hg; have c9 := (HO.up hg).cell 1 rfl; go_simp; with_reducible rfl); (· simp only [Act.put, List.setIfInBounds_toArray, List.set_cons_zero, List.set_cons_succ, kw64, kw32]; rfl))
                    (refine sD (v := ?_) (a' := ?_) Try.func48 rfl rfl (by rfl) rfl (by kernel_rfl) rfl (by rfl) ?_ ?_ ?_; rotate_left 2; (· intro w1 hg; exact H1.out w1); (· simp only [Act.put, List.setIfInBounds_toArray, List.set_cons_zero, List.set_cons_succ, kw64, kw32]; rfl))
                    iterate 4 (refine sP (v := ?_) (a' := ?_) rfl rfl (by rfl) ?_ ?_ ?_; rotate_left 2; (· intro w'; go_simp; with_reducible rfl); (· simp only [Act.put, List.setIfInBounds_toArray, List.set_cons_zero, List.set_cons_succ, kw64, kw32]; rfl))
                    (refine sB (v := ?_) (a' := ?_) rfl rfl (by rfl) ?_ ?_ ?_; rotate_left 2; (· intro w1 hg; have c9 := (HO.up hg).cell 1 rfl; go_simp; with_reducible rfl); (· simp only [Act.put, List.setIfInBounds_toArray, List.set_cons_zero, List.set_cons_succ, kw64, kw32]; rfl))
                    (refine sD (v := ?_) (a' := ?_) Try.func49 rfl rfl (by rfl) rfl (by kernel_rfl) rfl (by rfl) ?_ ?_ ?_; rotate_left 2; (· intro w1 hg; exact HP.out w1); (· simp only [Act.put, List.setIfInBounds_toArray, List.set_cons_zero, List.set_cons_succ, kw64, kw32]; rfl))
                    (refine sB (v := ?_) (a' := ?_) rfl rfl (by rfl) ?_ ?_ ?_; rotate_left 2; (· intro w1 hg; have c9 := (HO.up hg).cell 1 rfl; go_simp; with_reducible rfl); (· simp only [Act.put, List.setIfInBounds_toArray, List.set_cons_zero, List.set_cons_succ, kw64, kw32]; rfl))
                    (refine sD (v := ?_) (a' := ?_) Try.func49 rfl rfl (by rfl) rfl (by kernel_rfl) rfl (by rfl) ?_ ?_ ?_; rotate_left 2; (· intro w1 hg; exact HRE.out w1); (· simp only [Act.put, List.setIfInBounds_toArray, List.set_cons_zero, List.set_cons_succ, kw64, kw32]; rfl))
                    iterate 2 (refine sP (v := ?_) (a' := ?_) rfl rfl (by rfl) ?_ ?_ ?_; rotate_left 2; (· intro w'; go_simp; with_reducible rfl); (· simp only [Act.put, List.setIfInBounds_toArray, List.set_cons_zero, List.set_cons_succ, kw64, kw32]; rfl))
                    (refine sB (v := ?_) (a' := ?_) rfl rfl (by rfl) ?_ ?_ ?_; rotate_left 2; (· intro w1 hg; have c9 := (HO.up hg).cell 1 rfl; go_simp; with_reducible rfl); (· simp only [Act.put, List.setIfInBounds_toArray, List.set_cons_zero, List.set_cons_succ, kw64, kw32]; rfl))
                    (refine sD (v := ?_) (a' := ?_) Try.func49 rfl rfl (by rfl) rfl (by kernel_rfl) rfl (by rfl) ?_ ?_ ?_; rotate_left 2; (· intro w1 hg; exact HSE.out w1); (· simp only [Act.put, List.setIfInBounds_toArray, List.set_cons_zero, List.set_cons_succ, kw64, kw32]; rfl))
                    (refine sP (v := ?_) (a' := ?_) rfl rfl (by rfl) ?_ ?_ ?_; rotate_left 2; (· intro w'; go_simp; with_reducible rfl); (· simp only [Act.put, List.setIfInBounds_toArray, List.set_cons_zero, List.set_cons_succ, kw64, kw32]; rfl))
                    (refine sP (v := .bool true) (a' := ?_) rfl rfl (by rfl) ?_ ?_ ?_; rotate_left 1; (· intro w'; go_simp; first | done | rw [HE.out] | simpa using HE.out); (· simp only [Act.put, List.setIfInBounds_toArray, List.set_cons_zero, List.set_cons_succ, kw64, kw32]; rfl))
                    iterate 3 (refine sP (v := ?_) (a' := ?_) rfl rfl (by rfl) ?_ ?_ ?_; rotate_left 2; (· intro w'; go_simp; with_reducible rfl); (· simp only [Act.put, List.setIfInBounds_toArray, List.set_cons_zero, List.set_cons_succ, kw64, kw32]; rfl))
                    (refine sB (v := ?_) (a' := ?_) rfl rfl (by rfl) ?_ ?_ ?_; rotate_left 2; (· intro w1 hg; have c9 := (HO.up hg).cell 1 rfl; go_simp; with_reducible rfl); (· simp only [Act.put, List.setIfInBounds_toArray, List.set_cons_zero, List.set_cons_succ, kw64, kw32]; rfl))
                    (refine sD (v := ?_) (a' := ?_) Try.func51 rfl rfl (by rfl) rfl (by kernel_rfl) rfl (by rfl) ?_ ?_ ?_; rotate_left 2; (· intro w1 hg; exact HK.out w1 ((HO.up hg).below)); (· simp only [Act.put, List.setIfInBounds_toArray, List.set_cons_zero, List.set_cons_succ, kw64, kw32]; rfl))
                    iterate 3 (refine sP (v := ?_) (a' := ?_) rfl rfl (by rfl) ?_ ?_ ?_; rotate_left 2; (· intro w'; go_simp; with_reducible rfl); (· simp only [Act.put, List.setIfInBounds_toArray, List.set_cons_zero, List.set_cons_succ, kw64, kw32]; rfl))
                    (refine sB (v := ?_) (a' := ?_) rfl rfl (by rfl) ?_ ?_ ?_; rotate_left 2; (· intro w1 hg; have c9 := (HO.up hg).cell 1 rfl; go_simp; with_reducible rfl); (· simp only [Act.put, List.setIfInBounds_toArray, List.set_cons_zero, List.set_cons_succ, kw64, kw32]; rfl))
                    (refine sP (v := ?_) (a' := ?_) rfl rfl (by rfl) ?_ ?_ ?_; rotate_left 2; (· intro w'; go_simp; with_reducible rfl); (· simp only [Act.put, List.setIfInBounds_toArray, List.set_cons_zero, List.set_cons_succ, kw64, kw32]; rfl))
                    (refine sP (v := .bool true) (a' := ?_) rfl rfl (by rfl) ?_ ?_ ?_; rotate_left 1; (· intro w'; go_simp; first | done | rw [decide_eq_true kU]); (· simp only [Act.put, List.setIfInBounds_toArray, List.set_cons_zero, List.set_cons_succ, kw64, kw32]; rfl))
                    iterate 4 (refine sP (v := ?_) (a' := ?_) rfl rfl (by rfl) ?_ ?_ ?_; rotate_left 2; (· intro w'; go_simp; with_reducible rfl); (· simp only [Act.put, List.setIfInBounds_toArray, List.set_cons_zero, List.set_cons_succ, kw64, kw32]; rfl))
                    (refine sB (v := ?_) (a' := ?_) rfl rfl (by rfl) ?_ ?_ ?_; rotate_left 2; (· intro w1 hg; have c9 := (HO.up hg).cell 1 rfl; go_simp; with_reducible rfl); (· simp only [Act.put, List.setIfInBounds_toArray, List.set_cons_zero, List.set_cons_succ, kw64, kw32]; rfl))
                    (refine sD (v := ?_) (a' := ?_) Try.func29 rfl rfl (by rfl) rfl (by kernel_rfl) rfl (by rfl) ?_ ?_ ?_; rotate_left 2; (· intro w1 hg; exact HC.out w1 ((HO.up hg).below)); (· simp only [Act.put, List.setIfInBounds_toArray, List.set_cons_zero, List.set_cons_succ, kw64, kw32]; rfl))
                    iterate 3 (refine sP (v := ?_) (a' := ?_) rfl rfl (by rfl) ?_ ?_ ?_; rotate_left 2; (· intro w'; go_simp; with_reducible rfl); (· simp only [Act.put, List.setIfInBounds_toArray, List.set_cons_zero, List.set_cons_succ, kw64, kw32]; rfl))
                    iterate 8 (refine sO (a' := ?_) rfl rfl (by rfl) ?_ ?_; rotate_left 1; (· simp only [Act.put, List.setIfInBounds_toArray, List.set_cons_zero, List.set_cons_succ, kw64, kw32]; rfl))
                    iterate 2 (refine sP (v := ?_) (a' := ?_) rfl rfl (by rfl) ?_ ?_ ?_; rotate_left 2; (· intro w'; go_simp; with_reducible rfl); (· simp only [Act.put, List.setIfInBounds_toArray, List.set_cons_zero, List.set_cons_succ, kw64, kw32]; rfl))
                    intro w1 hg
                    replace HO := HO.up hg
                    clear hg
                    go_wp2
                    go_ret
                    exact ⟨ret_congr (by rw [HR.out]; rfl), HO.below⟩
                · rw [decide_eq_false hu] at HR
                  have kU : ¬ ((un : Int) ≤ 40) := by omega
                  clear hu
                  refine kall [(0, true, some 27), (1, true, some 28), (2, true, some 29), (3, true, some 30), (4, true, some 31), (5, true, some 32), (6, true, some 33), (7, true, some 34), (8, true, some 35), (9, true, some 36), (12, true, some 39), (10, true, some 37), (11, true, some 38), (13, true, some 40), (14, true, some 41), (15, true, some 42), (16, true, some 43), (17, true, some 44), (18, true, some 45), (19, true, some 46), (20, true, some 47), (21, true, some 48), (22, true, some 49), (23, true, some 50), (24, true, some 51), (25, true, some 52), (26, true, some 53), (27, true, some 54), (28, true, some 55), (29, true, some 56), (30, true, some 57), (31, true, some 58), (32, true, some 59), (33, true, some 60), (34, true, some 61), (36, true, some 63), (35, true, some 62), (37, true, some 64), (38, true, some 65), (39, true, some 66), (40, true, some 67), (41, true, some 68), (43, true, some 70), (45, true, some 72), (42, true, some 69), (44, true, some 71), (46, true, some 73), (47, true, some 74), (48, true, some 75), (49, true, some 76), (50, true, some 2)] (by kernel_rfl) rfl (by kernel_rfl) rfl (fun _ _ _ _ _ h => h) ?_
                  (refine sP (v := ?_) (a' := ?_) rfl rfl (by rfl) ?_ ?_ ?_; rotate_left 2; (· intro w'; go_simp; with_reducible rfl); (· simp only [Act.put, List.setIfInBounds_toArray, List.set_cons_zero, List.set_cons_succ, kw64, kw32]; rfl))
                  (refine sB (v := ?_) (a' := ?_) rfl rfl (by rfl) ?_ ?_ ?_; rotate_left 2; (· intro w1 hg; have c9 := (HO.up hg).cell 1 rfl; go_simp; with_reducible rfl); (· simp only [Act.put, List.setIfInBounds_toArray, List.set_cons_zero, List.set_cons_succ, kw64, kw32]; rfl))
                  (refine sD (v := ?_) (a' := ?_) Try.func48 rfl rfl (by rfl) rfl (by kernel_rfl) rfl (by rfl) ?_ ?_ ?_; rotate_left 2; (· intro w1 hg; exact H0.out w1); (· simp only [Act.put, List.setIfInBounds_toArray, List.set_cons_zero, List.set_cons_succ, kw64, kw32]; rfl))
                  iterate 2 (refine sP (v := ?_) (a' := ?_) rfl rfl (by rfl) ?_ ?_ ?_; rotate_left 2; (· intro w'; go_simp; with_reducible rfl); (· simp only [Act.put, List.setIfInBounds_toArray, List.set_cons_zero, List.set_cons_succ, kw64, kw32]; rfl))
                  (refine sB (v := ?_) (a' := ?_) rfl rfl (by rfl) ?_ ?_ ?_; rotate_left 2; (· intro w1 hg; have c9 := (HO.up hg).cell 1 rfl; go_simp; with_reducible rfl); (· simp only [Act.put, List.setIfInBounds_toArray, List.set_cons_zero, List.set_cons_succ, kw64, kw32]; rfl))
                  (refine sD (v := ?_) (a' := ?_) Try.func48 rfl rfl (by rfl) rfl (by kernel_rfl) rfl (by rfl) ?_ ?_ ?_; rotate_left 2; (· intro w1 hg; exact H1.out w1); (· simp only [Act.put, List.setIfInBounds_toArray, List.set_cons_zero, List.set_cons_succ, kw64, kw32]; rfl))
                  iterate 4 (refine sP (v := ?_) (a' := ?_) rfl rfl (by rfl) ?_ ?_ ?_; rotate_left 2; (· intro w'; go_simp; with_reducible rfl); (· simp only [Act.put, List.setIfInBounds_toArray, List.set_cons_zero, List.set_cons_succ, kw64, kw32]; rfl))
                  (refine sB (v := ?_) (a' := ?_) rfl rfl (by rfl) ?_ ?_ ?_; rotate_left 2; (· intro w1 hg; have c9 := (HO.up hg).cell 1 rfl; go_simp; with_reducible rfl); (· simp only [Act.put, List.setIfInBounds_toArray, List.set_cons_zero, List.set_cons_succ, kw64, kw32]; rfl))
                  (refine sD (v := ?_) (a' := ?_) Try.func49 rfl rfl (by rfl) rfl (by kernel_rfl) rfl (by rfl) ?_ ?_ ?_; rotate_left 2; (· intro w1 hg; exact HP.out w1); (· simp only [Act.put, List.setIfInBounds_toArray, List.set_cons_zero, List.set_cons_succ, kw64, kw32]; rfl))
                  (refine sB (v := ?_) (a' := ?_) rfl rfl (by rfl) ?_ ?_ ?_; rotate_left 2; (· intro w1 hg; have c9 := (HO.up hg).cell 1 rfl; go_simp; with_reducible rfl); (· simp only [Act.put, List.setIfInBounds_toArray, List.set_cons_zero, List.set_cons_succ, kw64, kw32]; rfl))
                  (refine sD (v := ?_) (a' := ?_) Try.func49 rfl rfl (by rfl) rfl (by kernel_rfl) rfl (by rfl) ?_ ?_ ?_; rotate_left 2; (· intro w1 hg; exact HRE.out w1); (· simp only [Act.put, List.setIfInBounds_toArray, List.set_cons_zero, List.set_cons_succ, kw64, kw32]; rfl))
                  iterate 2 (refine sP (v := ?_) (a' := ?_) rfl rfl (by rfl) ?_ ?_ ?_; rotate_left 2; (· intro w'; go_simp; with_reducible rfl); (· simp only [Act.put, List.setIfInBounds_toArray, List.set_cons_zero, List.set_cons_succ, kw64, kw32]; rfl))
                  (refine sB (v := ?_) (a' := ?_) rfl rfl (by rfl) ?_ ?_ ?_; rotate_left 2; (· intro w1 hg; have c9 := (HO.up hg).cell 1 rfl; go_simp; with_reducible rfl); (· simp only [Act.put, List.setIfInBounds_toArray, List.set_cons_zero, List.set_cons_succ, kw64, kw32]; rfl))
                  (refine sD (v := ?_) (a' := ?_) Try.func49 rfl rfl (by rfl) rfl (by kernel_rfl) rfl (by rfl) ?_ ?_ ?_; rotate_left 2; (· intro w1 hg; exact HSE.out w1); (· simp only [Act.put, List.setIfInBounds_toArray, List.set_cons_zero, List.set_cons_succ, kw64, kw32]; rfl))
                  (refine sP (v := ?_) (a' := ?_) rfl rfl (by rfl) ?_ ?_ ?_; rotate_left 2; (· intro w'; go_simp; with_reducible rfl); (· simp only [Act.put, List.setIfInBounds_toArray, List.set_cons_zero, List.set_cons_succ, kw64, kw32]; rfl))
                  (refine sP (v := .bool true) (a' := ?_) rfl rfl (by rfl) ?_ ?_ ?_; rotate_left 1; (· intro w'; go_simp; first | done | rw [HE.out] | simpa using HE.out); (· simp only [Act.put, List.setIfInBounds_toArray, List.set_cons_zero, List.set_cons_succ, kw64, kw32]; rfl))
                  iterate 3 (refine sP (v := ?_) (a' := ?_) rfl rfl (by rfl) ?_ ?_ ?_; rotate_left 2; (· intro w'; go_simp; with_reducible rfl); (· simp only [Act.put, List.setIfInBounds_toArray, List.set_cons_zero, List.set_cons_succ, kw64, kw32]; rfl))
                  (refine sB (v := ?_) (a' := ?_) rfl rfl (by rfl) ?_ ?_ ?_; rotate_left 2; (· intro w1 hg; have c9 := (HO.up hg).cell 1 rfl; go_simp; with_reducible rfl); (· simp only [Act.put, List.setIfInBounds_toArray, List.set_cons_zero, List.set_cons_succ, kw64, kw32]; rfl))
                  (refine sD (v := ?_) (a' := ?_) Try.func51 rfl rfl (by rfl) rfl (by kernel_rfl) rfl (by rfl) ?_ ?_ ?_; rotate_left 2; (· intro w1 hg; exact HK.out w1 ((HO.up hg).below)); (· simp only [Act.put, List.setIfInBounds_toArray, List.set_cons_zero, List.set_cons_succ, kw64, kw32]; rfl))
                  iterate 3 (refine sP (v := ?_) (a' := ?_) rfl rfl (by rfl) ?_ ?_ ?_; rotate_left 2; (· intro w'; go_simp; with_reducible rfl); (· simp only [Act.put, List.setIfInBounds_toArray, List.set_cons_zero, List.set_cons_succ, kw64, kw32]; rfl))
                  (refine sB (v := ?_) (a' := ?_) rfl rfl (by rfl) ?_ ?_ ?_; rotate_left 2; (· intro w1 hg; have c9 := (HO.up hg).cell 1 rfl; go_simp; with_reducible rfl); (· simp only [Act.put, List.setIfInBounds_toArray, List.set_cons_zero, List.set_cons_succ, kw64, kw32]; rfl))
                  (refine sP (v := ?_) (a' := ?_) rfl rfl (by rfl) ?_ ?_ ?_; rotate_left 2; (· intro w'; go_simp; with_reducible rfl); (· simp only [Act.put, List.setIfInBounds_toArray, List.set_cons_zero, List.set_cons_succ, kw64, kw32]; rfl))
                  (refine sP (v := .bool false) (a' := ?_) rfl rfl (by rfl) ?_ ?_ ?_; rotate_left 1; (· intro w'; go_simp; first | done | rw [decide_eq_false kU]); (· simp only [Act.put, List.setIfInBounds_toArray, List.set_cons_zero, List.set_cons_succ, kw64, kw32]; rfl))
                  iterate 2 (refine sP (v := ?_) (a' := ?_) rfl rfl (by rfl) ?_ ?_ ?_; rotate_left 2; (· intro w'; go_simp; with_reducible rfl); (· simp only [Act.put, List.setIfInBounds_toArray, List.set_cons_zero, List.set_cons_succ, kw64, kw32]; rfl))
                  iterate 5 (refine sO (a' := ?_) rfl rfl (by rfl) ?_ ?_; rotate_left 1; (· simp only [Act.put, List.setIfInBounds_toArray, List.set_cons_zero, List.set_cons_succ, kw64, kw32]; rfl))
                  iterate 2 (refine sP (v := ?_) (a' := ?_) rfl rfl (by rfl) ?_ ?_ ?_; rotate_left 2; (· intro w'; go_simp; with_reducible rfl); (· simp only [Act.put, List.setIfInBounds_toArray, List.set_cons_zero, List.set_cons_succ, kw64, kw32]; rfl))
                  iterate 8 (refine sO (a' := ?_) rfl rfl (by rfl) ?_ ?_; rotate_left 1; (· simp only [Act.put, List.setIfInBounds_toArray, List.set_cons_zero, List.set_cons_succ, kw64, kw32]; rfl))
                  iterate 2 (refine sP (v := ?_) (a' := ?_) rfl rfl (by rfl) ?_ ?_ ?_; rotate_left 2; (· intro w'; go_simp; with_reducible rfl); (· simp only [Act.put, List.setIfInBounds_toArray, List.set_cons_zero, List.set_cons_succ, kw64, kw32]; rfl))
                  intro w1 hg
                  replace HO := HO.up hg
                  clear hg
                  go_wp2
                  go_ret
                  exact ⟨ret_congr (by rw [HR.out]; rfl), HO.below⟩

end Go.Proofs.Ytfghjahmnjghgaa

import Derived.Test.YtnkfdpkjphbheaaKit2
import Derived.Test.YtnkfdpkjphbheaaWEqStruct
import Derived.Test.YtnkfdpkjphbheaaProg
import Derived.Deep.RegionHeld3
import Derived.Deep.QuietTactic
import Derived.BigQuiet
namespace Go.Proofs.Ytnkfdpkjphbheaa
open Go.RowKit Go.Proofs.YtnkfdpkjphbheaaW.PrintWords

structure KeptD where
  r : ByteArray
  n : Nat
  k : ByteArray
instance : Inhabited KeptD := ⟨⟨.empty, 0, .empty⟩⟩
def encK (x : KeptD) : List Value := [.string x.r, .int .u64 x.n, .string x.k]
def kK : Kd KeptD := flat 3 encK (fun _ => rfl) (fun x u hu => by simp [encK] at hu; rcases hu with rfl | rfl | rfl <;> rfl)
theorem kK_at {w : World} {A : Option Addr} {n : Nat} {xs : List KeptD} (h : Kd.C kK w A n xs) (i : Nat) (hi : i < n) :
    ∃ ad p, A = some ad ∧ xs[i]? = some p ∧ w.cell? (ad.add (i * 3)) = some (.string p.r) ∧ w.cell? ⟨(ad.add (i * 3)).block, (ad.add (i * 3)).off + 1, none⟩ = some (.int .u64 p.n) ∧ w.cell? ⟨(ad.add (i * 3)).block, (ad.add (i * 3)).off + 2, none⟩ = some (.string p.k) := by
  obtain ⟨ad, p, e, hp, hc⟩ := flat_at h i hi
  exact ⟨ad, p, e, hp, hc 0 _ rfl, by rw [← add_field _ _ 1 (by omega)]; exact hc 1 _ rfl, by rw [← add_field _ _ 2 (by omega)]; exact hc 2 _ rfl⟩

def sameN (x : KeptD) (r : ByteArray) (n : Nat) : Bool := x.r.toList == r.toList && x.n == n

theorem eqA59 (d : Nat) (w : World) (x0 y0 : ByteArray) (x1 y1 : Int) :
    (Op.equalIn (d + 2) 59 (.agg #[.string x0, .int .u64 x1]) (.agg #[.string y0, .int .u64 y1])).run Try.prog w = .ok (x0.toList == y0.toList && (x1 == y1)) w := by
  refine eqA_of Try.underlying59 (by kernel_rfl) ?_
  refine eqf_cons (by rfl) (by go_simp; rfl) (by go_simp; rfl) (by go_simp) ?_
  exact eqf_last (by rfl) (by go_simp; rfl) (by go_simp; rfl) (by go_simp)
attribute [local go_sem high] eqA59

set_option maxHeartbeats 1000000 in
theorem of_any (x : KeptD) (w : World) :
    Calls Try.prog 34 #[.agg #[.string x.r, .int .u64 x.n, .string x.k]] w fun e w' => e = .returned (.agg #[.string x.r, .int .u64 x.n]) ∧ Below w.heap.size w w' := by
  go_enter Try.func34, Try.ntmps34
  go_wp2
  exact bodyPost_ret (v := .agg #[.string x.r, .int .u64 x.n]) (by simp [results, Try.results34, go_sem]) rfl ⟨rfl, below_alloc (below_alloc (Below.refl _ _) _) _⟩

set_option maxHeartbeats 1000000 in
theorem place1_any (x : KeptD) (r : ByteArray) (n : Nat) (bx : Nat) (w : World) (h0 : w.cell? ⟨bx, 0, none⟩ = some (.string r)) (h1 : w.cell? ⟨bx, 1, none⟩ = some (.int .u64 n)) :
    Calls Try.prog 42 #[.agg #[.string x.r, .int .u64 x.n, .string x.k], .pointer (some ⟨bx, 0, none⟩)] w fun e w' => e = .returned (.bool (sameN x r n)) ∧ Below w.heap.size w w' := by
  have hlt := World.block_lt_of_cell? w _ h0
  go_enter Try.func42, Try.ntmps42
  go_wp2
  have hB := Lib.hid (below_alloc (Below.refl w.heap.size w) (.cells #[.string x.r, .int .u64 x.n, .string x.k] 28))
  have g0 := alloc_cell h0 (.cells #[.string x.r, .int .u64 x.n, .string x.k] 28)
  have g1 := alloc_cell h1 (.cells #[.string x.r, .int .u64 x.n, .string x.k] 28)
  have c0 : (w.alloc (.cells #[.string x.r, .int .u64 x.n, .string x.k] 28)).cell? ⟨w.heap.size, 0, none⟩ = some (.string x.r) := by go_simp
  have c1 : (w.alloc (.cells #[.string x.r, .int .u64 x.n, .string x.k] 28)).cell? ⟨w.heap.size, 1, none⟩ = some (.int .u64 x.n) := by go_simp
  have c2 : (w.alloc (.cells #[.string x.r, .int .u64 x.n, .string x.k] 28)).cell? ⟨w.heap.size, 2, none⟩ = some (.string x.k) := by go_simp
  have hs : w.heap.size < (w.alloc (.cells #[.string x.r, .int .u64 x.n, .string x.k] 28)).heap.size := by simp
  have hlt2 : bx < (w.alloc (.cells #[.string x.r, .int .u64 x.n, .string x.k] 28)).heap.size := by simp; omega
  generalize w.alloc (.cells #[.string x.r, .int .u64 x.n, .string x.k] 28) = W at hB g0 g1 c0 c1 c2 hs hlt2 ⊢
  clear h0 h1 hlt
  go_region_held3 (fun w' => w'.cell? ⟨bx, 0, none⟩ = some (.string r) ∧ w'.cell? ⟨bx, 1, none⟩ = some (.int .u64 n) ∧ w'.cell? ⟨w.heap.size, 0, none⟩ = some (.string x.r) ∧ w'.cell? ⟨w.heap.size, 1, none⟩ = some (.int .u64 x.n) ∧ w'.cell? ⟨w.heap.size, 2, none⟩ = some (.string x.k))
      (first | go_keep | (exact ⟨(hb1.cell (p := ⟨bx, 0, none⟩) (by simpa using hlt2)).trans (by go_simp), (hb1.cell (p := ⟨bx, 1, none⟩) (by simpa using hlt2)).trans (by go_simp), (hb1.cell (p := ⟨w.heap.size, 0, none⟩) (by simpa using hs)).trans (by go_simp), (hb1.cell (p := ⟨w.heap.size, 1, none⟩) (by simpa using hs)).trans (by go_simp), (hb1.cell (p := ⟨w.heap.size, 2, none⟩) (by simpa using hs)).trans (by go_simp)⟩))
      ((go_at_call 34; refine (of_any x _).mono ?_; rintro e w1 ⟨rfl, hb1⟩))
  go_wp2
  go_ret
  refine ⟨ret_congr ?_, (hB.out.trans (below_drew (Below.refl _ _))).trans (hb1.mono (Nat.le_of_lt (by simpa using hs)))⟩
  show Value.bool (x.r.toList == r.toList && ((x.n : Int) == n)) = _
  rw [int_beq]; rfl

/-- the place of a name -/
def atI (xs : List KeptD) (r : ByteArray) (n : Nat) : Int := if xs.any (fun x => sameN x r n) then ((xs.findIdx fun x => sameN x r n : Nat) : Int) else -1
theorem atI_hit {xs : List KeptD} {r : ByteArray} {n k : Nat} {p : KeptD} (hp : xs[k]? = some p) (hn : ∀ q ∈ xs.take k, sameN q r n = false) (h : sameN p r n = true) : atI xs r n = k := by
  obtain ⟨hl, rfl⟩ := List.getElem?_eq_some_iff.1 hp
  unfold atI
  rw [if_pos (List.any_eq_true.2 ⟨xs[k], List.getElem_mem hl, h⟩)]
  congr 1
  rw [List.findIdx_eq hl]
  exact ⟨h, fun j hj => hn _ (List.mem_iff_getElem?.2 ⟨j, by rw [List.getElem?_take, if_pos hj, List.getElem?_eq_getElem]⟩)⟩
theorem atI_miss {xs : List KeptD} {r : ByteArray} {n : Nat} (hn : ∀ q ∈ xs, sameN q r n = false) : atI xs r n = -1 := by
  unfold atI
  rw [if_neg]
  intro h
  obtain ⟨q, hq, h1⟩ := List.any_eq_true.1 h
  rw [hn q hq] at h1; cases h1
theorem none_next {α : Type} {f : α → Bool} {xs : List α} {k : Nat} {p : α} (h : xs[k]? = some p) (hn : ∀ q ∈ xs.take k, f q = false) (hp : f p = false) : ∀ q ∈ xs.take (k + 1), f q = false := by
  intro q hq
  rw [take_next h] at hq
  rcases List.mem_append.1 hq with hq | hq
  · exact hn q hq
  · rw [List.mem_singleton.1 hq]; exact hp

set_option maxHeartbeats 1000000 in
theorem IndexFunc_any (A : Option Addr) (n c : Nat) (xs : List KeptD) (r : ByteArray) (m : Nat) (bx : Nat) (w : World) (hc : Kd.C kK w A n xs) (h0 : w.cell? ⟨bx, 0, none⟩ = some (.string r)) (h1 : w.cell? ⟨bx, 1, none⟩ = some (.int .u64 m)) :
    Calls Try.prog 41 #[.slice A n c, .func (.func 42) #[] #[.pointer (some ⟨bx, 0, none⟩)]] w fun e w' => e = .returned (.int .i64 (atI xs r m)) ∧ Below w.heap.size w w' := by
  have hm : n ≤ 9223372036854775807 := hc.2.1
  have HC := Lib.hid hc
  have HL := Lib.hid hc.1
  have H0 := Lib.hid h0
  have H1 := Lib.hid h1
  clear hc h0 h1
  go_enter Try.func41, Try.ntmps41
  go_wp2
  go_loopw [8] (fun i wr => ∃ k : Nat, k ≤ n ∧ i = .int .i64 k ∧ Aside0 (∀ q ∈ xs.take k, sameN q r m = false) ∧ Aside0 (Below w.heap.size w wr)) (fun i _ => (n - intOf i).toNat)
  case atStart => exact ⟨0, by omega, rfl, ⟨by simp⟩, ⟨Below.refl _ _⟩⟩
  case round =>
    obtain ⟨k, hk, rfl, HN, HB⟩ := hrel
    by_cases hlt : k < n
    · obtain ⟨ad, p, rfl, hp, c0, c1, c2⟩ := kK_at HC.out k hlt
      replace c0 := pw_cell_below HB.out c0
      replace c1 := pw_cell_below HB.out c1
      replace c2 := pw_cell_below HB.out c2
      have HP := Lib.hid hp
      clear hp
      cases hs : sameN p r m
      · have HS := Lib.hid hs
        go_wp2_with (first | (go_at_call 42; refine (place1_any p r m bx _ (pw_cell_below HB.out H0.out) (pw_cell_below HB.out H1.out)).mono ?_; rintro e w1 ⟨rfl, hb1⟩))
        exact ⟨⟨k + 1, by omega, by go_num, ⟨none_next HP.out HN.out HS.out⟩, ⟨below_step HB.out hb1⟩⟩, by simp [intOf]; omega⟩
      · have HS := Lib.hid hs
        go_wp2_with (first | (go_at_call 42; refine (place1_any p r m bx _ (pw_cell_below HB.out H0.out) (pw_cell_below HB.out H1.out)).mono ?_; rintro e w1 ⟨rfl, hb1⟩))
        go_ret
        exact ⟨ret_congr (by rw [atI_hit HP.out HN.out HS.out]; rfl), below_step HB.out hb1⟩
    · have e : k = n := by omega
      subst e
      rw [List.take_of_length_le (by rw [HL.out]; omega)] at HN
      go_wp2
      go_ret
      exact ⟨ret_congr (by rw [atI_miss HN.out]; rfl), HB.out⟩

set_option maxHeartbeats 1000000 in
theorem place_any (A : Option Addr) (n c : Nat) (xs : List KeptD) (r : ByteArray) (m : Nat) (w : World) (hc : Kd.C kK w A n xs) :
    Calls Try.prog 33 #[.slice A n c, .agg #[.string r, .int .u64 m]] w fun e w' => e = .returned (.int .i64 (atI xs r m)) ∧ Below w.heap.size w w' := by
  have HC := Lib.hid (Kd.C_below hc (below_alloc (Below.refl _ _) (.cells #[.string r, .int .u64 m] 59)))
  clear hc
  go_enter Try.func33, Try.ntmps33
  go_wp2_with (first | (go_at_call 41; refine (IndexFunc_any A n c xs r m w.heap.size _ HC.out (by go_simp) (by go_simp)).mono ?_; rintro e w1 ⟨rfl, hb1⟩))
  go_ret
  exact ⟨rfl, below_step (below_alloc (Below.refl _ _) _) hb1⟩

def sizedK (x : KeptD) : Bool := x.r.size == 32 && x.k.size == 32

set_option maxHeartbeats 1000000 in
theorem sized_any (x : KeptD) (w : World) :
    Calls Try.prog 32 #[.agg #[.string x.r, .int .u64 x.n, .string x.k]] w fun e w' => e = .returned (.bool (sizedK x)) ∧ Below w.heap.size w w' := by
  by_cases h : x.r.size = 32
  · have h1 : ((x.r.size : Int) == 32) = true := by simp; omega
    go_enter Try.func32, Try.ntmps32
    go_wp2
    go_ret
    refine ⟨ret_congr ?_, below_alloc (Below.refl _ _) _⟩
    show Value.bool ((x.k.size : Int) == 32) = _
    unfold sizedK
    rw [h, show ((x.k.size : Int) == 32) = (x.k.size == 32) from int_beq _ 32]; rfl
  · have h1 : ((x.r.size : Int) == 32) = false := by simp; omega
    go_enter Try.func32, Try.ntmps32
    go_wp2
    go_ret
    refine ⟨ret_congr ?_, below_alloc (Below.refl _ _) _⟩
    unfold sizedK
    rw [show (x.r.size == 32) = false by simpa using h]; rfl
end Go.Proofs.Ytnkfdpkjphbheaa

import Derived.Test.YtdmpnogjpgoaaaaMd
set_option linter.unusedSimpArgs false
namespace Go.Proofs.Ytdmpnogjpgoaaaa
open Go.RowKit Go.Proofs.YtdmpnogjpgoaaaaW.PrintWords Go.Proofs.YtdmpnogjpgoaaaaW.PrintLast Go.Proofs.YtdmpnogjpgoaaaaW.PrintMore
theorem setCell_same {w : World} {g : Nat} {t : TypeId} {fr : Nat × Nat} {v : Value} (h : w.heap[g]? = some (.cells #[v] t fr)) : Below w.heap.size w (w.setCell ⟨g, 0, none⟩ v) :=
  ⟨rfl, rfl, rfl, by simp [World.setCell], fun k _ => by
    by_cases hk : k = g
    · subst hk
      simp [World.setCell, Array.getElem?_modify, h]
    · exact Below.heap_setCell w _ _ _ hk⟩
theorem gr_then {a b c : World} (h : Gr a b) (k : Below b.heap.size b c) : Below a.heap.size a c := Gr.trans h k
attribute [local irreducible] Calls
set_option maxHeartbeats 1000000 in
set_option maxRecDepth 100000 in
theorem told1_any (s : ByteArray) (gb ga : Nat) (w : World) (hs : s.size = 32) (hbb : w.heap[gb]? = some (.cells #[.pointer (some ⟨ga, 0, none⟩)] 39 (0, 0))) (haa : w.heap[ga]? = some (.cells #[.bool true] 4 (0, 0))) :
    Calls Try.prog 67 #[.string s, .int .i64 0, .pointer (some ⟨gb, 0, none⟩)] w fun e w' => e = .returned (.string s) ∧ Below w.heap.size w w' := by
  have hs1 : ((s.size : Int) == 32) = true := by rw [hs]; rfl
  have hs2 : ((s.size : Int) != 32) = false := by rw [hs]; rfl
  have HBB := Aside0.mk hbb
  have HAA := Aside0.mk haa
  clear hs hbb haa
  go_enter Try.func67, Try.ntmps67
  go_wp2_with fail
  refine kstart (n := 15) (ds := [14]) #[false, false, false, false, false, false, false, false, false, false, false, false, false, false, false] (by kernel_rfl) rfl rfl ?_
  refine ktake (i := 0) (N := (some 6)) (v := ?_) (a' := ?_) #[true, false, false, false, false, false, false, false, false, false, false, false, false, false, false] rfl rfl (by kernel_rfl) (fun _ _ _ h => h) (Or.inl ⟨by rfl, fun w1 hg => ?_⟩) ?_ ?_  -- 0 load 39 (tmp 2)
  rotate_left
  · refine RunG_value ?_; have c0 := blk_cell (blk_below HBB.out hg) 0; have c1 := blk_cell (blk_below HAA.out hg) 0; go_simp; with_reducible rfl
  rotate_left
  · simp only [Act.put, List.setIfInBounds_toArray, List.set_cons_zero, List.set_cons_succ, i64_w, i32_w]; rfl
  refine ktake (i := 1) (N := (some 7)) (v := ?_) (a' := ?_) #[true, true, false, false, false, false, false, false, false, false, false, false, false, false, false] rfl rfl (by kernel_rfl) (fun _ _ _ h => h) (Or.inl ⟨by rfl, fun w1 hg => ?_⟩) ?_ ?_  -- 1 load 39 (tmp 2)
  rotate_left
  · refine RunG_value ?_; have c0 := blk_cell (blk_below HBB.out hg) 0; have c1 := blk_cell (blk_below HAA.out hg) 0; go_simp; with_reducible rfl
  rotate_left
  · simp only [Act.put, List.setIfInBounds_toArray, List.set_cons_zero, List.set_cons_succ, i64_w, i32_w]; rfl
  refine kpure (i := 2) (N := (some 8)) (v := ?_) (a' := ?_) #[true, true, true, false, false, false, false, false, false, false, false, false, false, false, false] rfl rfl (by kernel_rfl) (fun _ _ _ h => h) (Or.inl ⟨by rfl, ?_⟩) ?_ ?_  -- 2 nilCheck (tmp 7)
  rotate_left
  · intro w'; go_simp; with_reducible rfl
  rotate_left
  · simp only [Act.put, List.setIfInBounds_toArray, List.set_cons_zero, List.set_cons_succ, i64_w, i32_w]; rfl
  refine ktake (i := 3) (N := (some 9)) (v := ?_) (a' := ?_) #[true, true, true, true, false, false, false, false, false, false, false, false, false, false, false] rfl rfl (by kernel_rfl) (fun _ _ _ h => h) (Or.inl ⟨by rfl, fun w1 hg => ?_⟩) ?_ ?_  -- 3 load 4 (tmp 8)
  rotate_left
  · refine RunG_value ?_; have c0 := blk_cell (blk_below HBB.out hg) 0; have c1 := blk_cell (blk_below HAA.out hg) 0; go_simp; with_reducible rfl
  rotate_left
  · simp only [Act.put, List.setIfInBounds_toArray, List.set_cons_zero, List.set_cons_succ, i64_w, i32_w]; rfl
  refine kpure (i := 4) (N := (some 10)) (v := ?_) (a' := ?_) #[true, true, true, true, true, false, false, false, false, false, false, false, false, false, false] rfl rfl (by kernel_rfl) (fun _ _ _ h => h) (Or.inl ⟨by rfl, ?_⟩) ?_ ?_  -- 4 move (tmp 9)
  rotate_left
  · intro w'; go_simp; with_reducible rfl
  rotate_left
  · simp only [Act.put, List.setIfInBounds_toArray, List.set_cons_zero, List.set_cons_succ, i64_w, i32_w]; rfl
  refine kpure (i := 5) (N := (some 11)) (v := ?_) (a' := ?_) #[true, true, true, true, true, true, false, false, false, false, false, false, false, false, false] rfl rfl (by kernel_rfl) (fun _ _ _ h => h) (Or.inl ⟨by rfl, ?_⟩) ?_ ?_  -- 5 move (tmp 1)
  rotate_left
  · intro w'; go_simp; with_reducible rfl
  rotate_left
  · simp only [Act.put, List.setIfInBounds_toArray, List.set_cons_zero, List.set_cons_succ, i64_w, i32_w]; rfl
  refine kpure (i := 6) (N := (some 12)) (v := ?_) (a' := ?_) #[true, true, true, true, true, true, true, false, false, false, false, false, false, false, false] rfl rfl (by kernel_rfl) (fun _ _ _ h => h) (Or.inl ⟨by rfl, ?_⟩) ?_ ?_  -- 6 binOp Bineql 23 (tmp 11) (const (int i64 0)) 23
  rotate_left
  · intro w'; go_simp; with_reducible rfl
  rotate_left
  · simp only [Act.put, List.setIfInBounds_toArray, List.set_cons_zero, List.set_cons_succ, i64_w, i32_w]; rfl
  refine kpure (i := 7) (N := (some 13)) (v := ?_) (a' := ?_) #[true, true, true, true, true, true, true, true, false, false, false, false, false, false, false] rfl rfl (by kernel_rfl) (fun _ _ _ h => h) (Or.inl ⟨by rfl, ?_⟩) ?_ ?_  -- 7 pick (tmp 10) (tmp 12) (const (bool false))
  rotate_left
  · intro w'; go_simp; with_reducible rfl
  rotate_left
  · simp only [Act.put, List.setIfInBounds_toArray, List.set_cons_zero, List.set_cons_succ, i64_w, i32_w]; rfl
  refine kpure (i := 8) (N := (some 14)) (v := ?_) (a' := ?_) #[true, true, true, true, true, true, true, true, true, false, false, false, false, false, false] rfl rfl (by kernel_rfl) (fun _ _ _ h => h) (Or.inl ⟨by rfl, ?_⟩) ?_ ?_  -- 8 move (tmp 13)
  rotate_left
  · intro w'; go_simp; with_reducible rfl
  rotate_left
  · simp only [Act.put, List.setIfInBounds_toArray, List.set_cons_zero, List.set_cons_succ, i64_w, i32_w]; rfl
  refine kpure (i := 9) (N := (some 15)) (v := ?_) (a' := ?_) #[true, true, true, true, true, true, true, true, true, true, false, false, false, false, false] rfl rfl (by kernel_rfl) (fun _ _ _ h => h) (Or.inl ⟨by rfl, ?_⟩) ?_ ?_  -- 9 move (tmp 0)
  rotate_left
  · intro w'; go_simp; with_reducible rfl
  rotate_left
  · simp only [Act.put, List.setIfInBounds_toArray, List.set_cons_zero, List.set_cons_succ, i64_w, i32_w]; rfl
  refine kpure (i := 10) (N := (some 16)) (v := ?_) (a' := ?_) #[true, true, true, true, true, true, true, true, true, true, true, false, false, false, false] rfl rfl (by kernel_rfl) (fun _ _ _ h => h) (Or.inl ⟨by rfl, ?_⟩) ?_ ?_  -- 10 call { callee := builtin Builtin.len, args := #[tmp 15], argTypes := #[9] }
  rotate_left
  · intro w'; go_simp; with_reducible rfl
  rotate_left
  · simp only [Act.put, List.setIfInBounds_toArray, List.set_cons_zero, List.set_cons_succ, i64_w, i32_w]; rfl
  refine kpure (i := 11) (N := (some 17)) (v := ?_) (a' := ?_) #[true, true, true, true, true, true, true, true, true, true, true, true, false, false, false] rfl rfl (by kernel_rfl) (fun _ _ _ h => h) (Or.inl ⟨by rfl, ?_⟩) ?_ ?_  -- 11 binOp Bineql 3 (tmp 16) (const (int i64 32)) 3
  rotate_left
  · intro w'; go_simp; with_reducible rfl
  rotate_left
  · simp only [Act.put, List.setIfInBounds_toArray, List.set_cons_zero, List.set_cons_succ, i64_w, i32_w]; rfl
  refine kpure (i := 12) (N := (some 18)) (v := ?_) (a' := ?_) #[true, true, true, true, true, true, true, true, true, true, true, true, true, false, false] rfl rfl (by kernel_rfl) (fun _ _ _ h => h) (Or.inl ⟨by rfl, ?_⟩) ?_ ?_  -- 12 pick (tmp 14) (tmp 17) (const (bool false))
  rotate_left
  · intro w'; go_simp; with_reducible rfl
  rotate_left
  · simp only [Act.put, List.setIfInBounds_toArray, List.set_cons_zero, List.set_cons_succ, i64_w, i32_w]; rfl
  refine kpure (i := 13) (N := (some 19)) (v := ?_) (a' := ?_) #[true, true, true, true, true, true, true, true, true, true, true, true, true, true, false] rfl rfl (by kernel_rfl) (fun _ _ _ h => h) (Or.inl ⟨by rfl, ?_⟩) ?_ ?_  -- 13 nilCheck (tmp 6)
  rotate_left
  · intro w'; go_simp; with_reducible rfl
  rotate_left
  · simp only [Act.put, List.setIfInBounds_toArray, List.set_cons_zero, List.set_cons_succ, i64_w, i32_w]; rfl
  refine kone (i := 14) (N := none) #[true, true, true, true, true, true, true, true, true, true, true, true, true, true, true] rfl rfl (by kernel_rfl) (fun w1 hg K hK => ?_)  -- 14 store 4 (tmp 19) (tmp 18)
  rw [if_pos (by rfl)]
  have c0 := blk_cell (blk_below HBB.out hg) 0
  have c1 := blk_cell (blk_below HAA.out hg) 0
  have f1 := blk_frozen (blk_below HAA.out hg) 0
  go_simp
  refine hK _ _ (fun h => absurd (by decide) h) ?_
  have HD := Aside0.mk (gr_then hg (setCell_same (blk_below HAA.out hg)))
  clear c0 c1 f1 hg K hK
  revert HD
  generalize w1.setCell _ _ = wb
  intro HD
  refine kdone (by kernel_rfl) (fun w1 hg => ?_)
  have HD2 := Aside0.mk (gr_then HD.out hg)
  clear HD hg
  go_wp2
  go_ret
  exact ⟨rfl, HD2.out⟩
/-- the closure that 'told' gives -/
structure GivesF (ga : Nat) (w : World) (e : Ending) (w' : World) : Prop where
  out : ∃ gb, e = .returned (.func (.func 67) #[] #[.pointer (some ⟨gb, 0, none⟩)]) ∧ w'.heap[gb]? = some (.cells #[.pointer (some ⟨ga, 0, none⟩)] 39 (0, 0)) ∧ Below w.heap.size w w'
set_option maxHeartbeats 1000000 in
theorem told_any (ga : Nat) (w : World) : Calls Try.prog 26 #[.pointer (some ⟨ga, 0, none⟩)] w (GivesF ga w) := by
  go_enter Try.func26, Try.ntmps26
  go_wp2
  go_ret
  exact ⟨_, rfl, heap_alloc_new _ _, below_alloc (Below.refl _ _) _⟩
end Go.Proofs.Ytdmpnogjpgoaaaa

/- Fermat's little theorem, Pocklington's criterion, and that 2^255 - 19 is a prime: plain Lean. -/
namespace Go.Proofs.Ytdmpnogjpgoaaaa
namespace NT
/-- Pascal's numbers. -/
def C : Nat → Nat → Nat
  | _, 0 => 1
  | 0, _ + 1 => 0
  | n + 1, k + 1 => C n k + C n (k + 1)
theorem C_zero (n : Nat) : C n 0 = 1 := by cases n <;> rfl
theorem C_step (n k : Nat) : C (n + 1) (k + 1) = C n k + C n (k + 1) := rfl
theorem C_big : ∀ n k : Nat, n < k → C n k = 0
  | 0, 0, h => by omega
  | 0, k + 1, _ => rfl
  | n + 1, 0, h => by omega
  | n + 1, k + 1, h => by rw [C_step, C_big n k (by omega), C_big n (k + 1) (by omega)]
theorem C_self : ∀ n : Nat, C n n = 1
  | 0 => rfl
  | n + 1 => by rw [C_step, C_self n, C_big n (n + 1) (by omega)]
theorem C_absorb : ∀ n k : Nat, (k + 1) * C (n + 1) (k + 1) = (n + 1) * C n k
  | 0, 0 => rfl
  | 0, k + 1 => by rw [C_big 1 (k + 1 + 1) (by omega), C_big 0 (k + 1) (by omega)]; simp
  | n + 1, 0 => by
    have h := C_absorb n 0
    have e : C (n + 1 + 1) (0 + 1) = C (n + 1) 0 + C (n + 1) (0 + 1) := rfl
    rw [C_zero] at h e ⊢
    rw [e]
    simp only [Nat.zero_add, Nat.one_mul, Nat.mul_one] at h ⊢
    omega
  | n + 1, k + 1 => by
    have h1 := C_absorb n k
    have h2 := C_absorb n (k + 1)
    have e1 : C (n + 1 + 1) (k + 1 + 1) = C (n + 1) (k + 1) + C (n + 1) (k + 1 + 1) := rfl
    have e2 : C (n + 1) (k + 1) = C n k + C n (k + 1) := rfl
    rw [e1, Nat.mul_add, h2]
    have : (k + 1 + 1) * C (n + 1) (k + 1) = (k + 1) * C (n + 1) (k + 1) + C (n + 1) (k + 1) := by rw [Nat.add_mul (k + 1) 1, Nat.one_mul]
    rw [this, h1]
    have : (n + 1 + 1) * C (n + 1) (k + 1) = (n + 1) * C (n + 1) (k + 1) + C (n + 1) (k + 1) := by rw [Nat.add_mul (n + 1) 1, Nat.one_mul]
    rw [this, e2, Nat.mul_add]
    omega
/-- The first terms of (a+1)^n. -/
def S (n a : Nat) : Nat → Nat
  | 0 => 0
  | m + 1 => S n a m + C n m * a ^ m
theorem S_step (n a : Nat) : ∀ m : Nat, S (n + 1) a (m + 1) = S n a (m + 1) + a * S n a m
  | 0 => by simp [S, C_zero]
  | m + 1 => by
    have h := S_step n a m
    show S (n + 1) a (m + 1) + C (n + 1) (m + 1) * a ^ (m + 1) = S n a (m + 1) + C n (m + 1) * a ^ (m + 1) + a * (S n a m + C n m * a ^ m)
    rw [h, C_step, Nat.add_mul, Nat.mul_add a, show a * (C n m * a ^ m) = C n m * a ^ (m + 1) by rw [Nat.pow_succ]; rw [Nat.mul_left_comm, Nat.mul_comm a]]
    omega
theorem S_top (n a : Nat) : S n a (n + 2) = S n a (n + 1) := by
  show S n a (n + 1) + C n (n + 1) * a ^ (n + 1) = _
  rw [C_big n (n + 1) (by omega)]; simp
theorem S_pow (a : Nat) : ∀ n : Nat, S n a (n + 1) = (a + 1) ^ n
  | 0 => by simp [S, C]
  | n + 1 => by
    rw [S_step, S_top, S_pow a n, Nat.pow_succ, Nat.mul_add, Nat.mul_one, Nat.mul_comm a]
    omega
structure Prime (p : Nat) : Prop where
  two : 2 ≤ p
  only : ∀ m, m ∣ p → m = 1 ∨ m = p
theorem Prime.cop {p a : Nat} (h : Prime p) (ha : ¬ p ∣ a) : Nat.Coprime p a := by
  rcases h.only _ (Nat.gcd_dvd_left p a) with e | e
  · exact e
  · exact absurd (e ▸ Nat.gcd_dvd_right p a) ha
theorem Prime.mul {p a b : Nat} (h : Prime p) (hd : p ∣ a * b) : p ∣ a ∨ p ∣ b := by
  by_cases ha : p ∣ a
  · exact .inl ha
  · exact .inr (Nat.Coprime.dvd_of_dvd_mul_left (h.cop ha) hd)
theorem Prime.C {p k : Nat} (h : Prime p) (h0 : 0 < k) (hk : k < p) : p ∣ NT.C p k := by
  obtain ⟨n, rfl⟩ : ∃ n, p = n + 1 := ⟨p - 1, by have := h.two; omega⟩
  obtain ⟨j, rfl⟩ : ∃ j, k = j + 1 := ⟨k - 1, by omega⟩
  have := C_absorb n j
  rcases h.mul (a := j + 1) (b := NT.C (n + 1) (j + 1)) (by rw [this]; exact Nat.dvd_mul_right _ _) with h1 | h1
  · have := Nat.le_of_dvd (by omega) h1; omega
  · exact h1
theorem S_mod {p a : Nat} (h : Prime p) : ∀ m : Nat, m < p → S p a (m + 1) % p = 1 % p
  | 0, _ => by simp [S, C_zero]
  | m + 1, hm => by
    show (S p a (m + 1) + C p (m + 1) * a ^ (m + 1)) % p = _
    obtain ⟨c, hc⟩ := h.C (k := m + 1) (by omega) hm
    rw [hc, Nat.mul_assoc, Nat.add_mul_mod_self_left]
    exact S_mod h m (by omega)
theorem fermat {p : Nat} (h : Prime p) : ∀ a : Nat, a ^ p % p = a % p
  | 0 => by have := h.two; rw [Nat.zero_pow (by omega)]
  | a + 1 => by
    rw [← S_pow]
    obtain ⟨n, rfl⟩ : ∃ n, p = n + 1 := ⟨p - 1, by have := h.two; omega⟩
    show (S (n + 1) a (n + 1) + C (n + 1) (n + 1) * a ^ (n + 1)) % (n + 1) = _
    rw [C_self, Nat.one_mul, Nat.add_mod, S_mod h n (by omega), fermat h a, ← Nat.add_mod, Nat.add_comm]
theorem fermat1 {p a : Nat} (h : Prime p) (ha : ¬ p ∣ a) : a ^ (p - 1) % p = 1 := by
  have h2 := h.two
  have hf := fermat h a
  have e : a ^ p = a * a ^ (p - 1) := by
    rw [← Nat.pow_succ']; congr 1; omega
  have ha0 : 0 < a := Nat.pos_of_ne_zero (fun h0 => ha (h0 ▸ Nat.dvd_zero p))
  have ha1 : 1 ≤ a ^ (p - 1) := Nat.pow_pos ha0
  have hd : p ∣ a * (a ^ (p - 1) - 1) := by
    rw [Nat.mul_sub, Nat.mul_one, ← e]
    have hle : a ≤ a ^ p := by rw [e]; exact Nat.le_mul_of_pos_right _ ha1
    refine ⟨a ^ p / p - a / p, ?_⟩
    rw [Nat.mul_sub]
    have d1 := Nat.div_add_mod (a ^ p) p
    have d2 := Nat.div_add_mod a p
    omega
  rcases h.mul hd with h1 | h1
  · exact absurd h1 ha
  · obtain ⟨c, hc⟩ := h1
    have : a ^ (p - 1) = 1 + p * c := by omega
    rw [this, Nat.add_mul_mod_self_left, Nat.mod_eq_of_lt (by omega)]
end NT
namespace NT
theorem pow_mod' (a n d : Nat) : a ^ n % d = (a % d) ^ n % d := Nat.pow_mod a n d
theorem least_dvd {n : Nat} (hn : 2 ≤ n) : ∃ d, Prime d ∧ d ∣ n ∧ (d = n ∨ d * d ≤ n) := by
  have key : ∀ k : Nat, ∀ d, d ≤ k → 2 ≤ d → d ∣ n → ∃ d', 2 ≤ d' ∧ d' ∣ n ∧ ∀ m, 2 ≤ m → m ∣ n → d' ≤ m := by
    intro k
    induction k with
    | zero => intro d h1 h2; omega
    | succ k ih =>
      intro d h1 h2 h3
      by_cases h : ∃ m, 2 ≤ m ∧ m ∣ n ∧ m < d
      · obtain ⟨m, m1, m2, m3⟩ := h
        exact ih m (by omega) m1 m2
      · exact ⟨d, h2, h3, fun m m1 m2 => Nat.le_of_not_lt (fun h4 => h ⟨m, m1, m2, h4⟩)⟩
  obtain ⟨d, h1, h2, h3⟩ := key n n (Nat.le_refl n) hn (Nat.dvd_refl n)
  refine ⟨d, ⟨h1, fun m hm => ?_⟩, h2, ?_⟩
  · have hm0 : 0 < m := Nat.pos_of_dvd_of_pos hm (by omega)
    have hmd := Nat.le_of_dvd (by omega) hm
    by_cases h : m = 1
    · exact .inl h
    · exact .inr (by have := h3 m (by omega) (Nat.dvd_trans hm h2); omega)
  · obtain ⟨e, rfl⟩ := h2
    by_cases he : e ≤ 1
    · left
      have : e = 1 := by
        rcases Nat.eq_zero_or_pos e with h | h
        · subst h; omega
        · omega
      rw [this, Nat.mul_one]
    · right
      exact Nat.mul_le_mul_left _ (h3 e (by omega) (Nat.dvd_mul_left _ _))
theorem E_gcd (b d : Nat) : ∀ m n : Nat, b ^ m % d = 1 % d → b ^ n % d = 1 % d → b ^ (Nat.gcd m n) % d = 1 % d := by
  intro m n
  induction m, n using Nat.gcd.induction with
  | H0 n => intro _ h; rwa [Nat.gcd_zero_left]
  | H1 m n hm ih =>
    intro h1 h2
    rw [Nat.gcd_rec]
    refine ih ?_ h1
    rw [← Nat.div_add_mod n m, Nat.pow_add, Nat.pow_mul, Nat.mul_mod, Nat.pow_mod, h1, ← Nat.pow_mod, Nat.one_pow, ← Nat.mul_mod, Nat.one_mul] at h2
    exact h2
theorem order_dvd {d q b : Nat} (hd : Prime d) (hq : Prime q) (h1 : b ^ q % d = 1) (h2 : b % d ≠ 1) : q ∣ d - 1 := by
  have d2 := hd.two
  have e1 : 1 % d = 1 := Nat.mod_eq_of_lt (by omega)
  have hb : ¬ d ∣ b := fun h => by
    have : d ∣ b ^ q := Nat.dvd_trans h ⟨b ^ (q - 1), by rw [← Nat.pow_succ']; congr 1; have := hq.two; omega⟩
    rw [Nat.mod_eq_zero_of_dvd this] at h1
    omega
  have h3 := E_gcd b d q (d - 1) (by rw [h1, e1]) (by rw [fermat1 hd hb, e1])
  rcases hq.only _ (Nat.gcd_dvd_left q (d - 1)) with h | h
  · rw [h, Nat.pow_one, e1] at h3; exact absurd h3 h2
  · exact h ▸ Nat.gcd_dvd_right q (d - 1)
/-- A power, modulo n. -/
def pm (n : Nat) : Nat → Nat → Nat → Nat
  | 0, _, _ => 1 % n
  | f + 1, a, e => if e = 0 then 1 % n else if e % 2 = 1 then a * pm n f (a * a % n) (e / 2) % n else pm n f (a * a % n) (e / 2)
theorem pm_eq (n : Nat) : ∀ f a e : Nat, e < 2 ^ f → pm n f a e = a ^ e % n
  | 0, a, e, h => by
    have : e = 0 := by simpa using h
    subst this; rfl
  | f + 1, a, e, h => by
    unfold pm
    by_cases h0 : e = 0
    · rw [if_pos h0, h0, Nat.pow_zero]
    · have hp : (2 : Nat) ^ (f + 1) = 2 ^ f * 2 := rfl
      have he : e / 2 < 2 ^ f := by omega
      have hs : (a * a % n) ^ (e / 2) % n = a ^ (2 * (e / 2)) % n := by
        rw [← Nat.pow_mod, Nat.pow_mul, Nat.pow_two]
      rw [if_neg h0, pm_eq n f _ _ he, hs]
      by_cases h1 : e % 2 = 1
      · rw [if_pos h1, Nat.mul_mod, Nat.mod_mod, ← Nat.mul_mod, ← Nat.pow_succ']
        congr 2; omega
      · rw [if_neg h1]
        congr 2; omega
/-- The certificate of one prime part. -/
def ok1 (n q a : Nat) : Bool := (n - 1) % q == 0 && (pm n 256 a (n - 1) == 1 && Nat.gcd (pm n 256 a ((n - 1) / q) + n - 1) n == 1)
theorem part {n q a d : Nat} (hn : 2 ≤ n) (hs : n < 2 ^ 256) (hq : Prime q) (hok : ok1 n q a = true) (hd : Prime d) (hdn : d ∣ n) : q ∣ d - 1 := by
  unfold ok1 at hok
  simp only [Bool.and_eq_true, beq_iff_eq] at hok
  obtain ⟨h0, h1, h2⟩ := hok
  have hle : (n - 1) / q ≤ n - 1 := Nat.div_le_self _ _
  rw [pm_eq n 256 a (n - 1) (by omega)] at h1
  rw [pm_eq n 256 a ((n - 1) / q) (by omega)] at h2
  have d2 := hd.two
  have hqR : (n - 1) / q * q = n - 1 := by
    have := Nat.div_add_mod (n - 1) q
    rw [h0, Nat.add_zero, Nat.mul_comm] at this
    exact this
  refine order_dvd (b := a ^ ((n - 1) / q)) hd hq ?_ ?_
  · rw [← Nat.pow_mul, hqR, ← Nat.mod_mod_of_dvd _ hdn, h1, Nat.mod_eq_of_lt (by omega)]
  · intro h3
    rw [← Nat.mod_mod_of_dvd _ hdn] at h3
    generalize a ^ ((n - 1) / q) % n = x at h2 h3
    have h4 : d ∣ x + n - 1 := by
      have e := Nat.div_add_mod x d
      obtain ⟨c, hc⟩ := hdn
      refine ⟨x / d + c, ?_⟩
      rw [Nat.mul_add, ← hc]
      omega
    have h5 := Nat.dvd_gcd h4 hdn
    rw [h2] at h5
    have := Nat.le_of_dvd (by omega) h5
    omega
theorem pock1 {n q a : Nat} (hn : 2 ≤ n) (hs : n < 2 ^ 256) (hq : Prime q) (hok : ok1 n q a = true) (hbig : n < (q + 1) * (q + 1)) : Prime n := by
  obtain ⟨d, hd, hdn, h⟩ := least_dvd hn
  rcases h with rfl | h
  · exact hd
  · have := part hn hs hq hok hd hdn
    have d2 := hd.two
    have h1 := Nat.le_of_dvd (by omega) this
    have := Nat.mul_le_mul (show q + 1 ≤ d by omega) (show q + 1 ≤ d by omega)
    omega
theorem pock2 {n q r a b : Nat} (hn : 2 ≤ n) (hs : n < 2 ^ 256) (hq : Prime q) (hr : Prime r) (hne : q ≠ r) (hok : ok1 n q a = true) (hok2 : ok1 n r b = true) (hbig : n < (q * r + 1) * (q * r + 1)) : Prime n := by
  obtain ⟨d, hd, hdn, h⟩ := least_dvd hn
  rcases h with rfl | h
  · exact hd
  · have h1 := part hn hs hq hok hd hdn
    have h2 := part hn hs hr hok2 hd hdn
    have d2 := hd.two
    have hc : Nat.Coprime q r := hq.cop (fun hh => by
      rcases hr.only _ hh with e | e
      · have := hq.two; omega
      · exact hne e)
    have h1 := Nat.le_of_dvd (by omega) (Nat.Coprime.mul_dvd_of_dvd_of_dvd hc h1 h2)
    have := Nat.mul_le_mul (show q * r + 1 ≤ d by omega) (show q * r + 1 ≤ d by omega)
    omega
def noDiv (n : Nat) : Nat → Nat → Bool
  | 0, d => decide (n < d * d)
  | f + 1, d => decide (n % d ≠ 0) && noDiv n f (d + 1)
theorem noDiv_spec (n : Nat) : ∀ f d : Nat, noDiv n f d = true → (∀ m, 2 ≤ m → m < d → ¬ m ∣ n) → ∃ D, n < D * D ∧ ∀ m, 2 ≤ m → m < D → ¬ m ∣ n
  | 0, d, h, hm => ⟨d, by simpa [noDiv] using h, hm⟩
  | f + 1, d, h, hm => by
    unfold noDiv at h
    rw [Bool.and_eq_true, decide_eq_true_iff] at h
    refine noDiv_spec n f (d + 1) h.2 (fun m m1 m2 => ?_)
    by_cases e : m = d
    · subst e; exact fun hd => h.1 (Nat.mod_eq_zero_of_dvd hd)
    · exact hm m m1 (by omega)
theorem small {n f : Nat} (hn : 2 ≤ n) (h : noDiv n f 2 = true) : Prime n := by
  obtain ⟨D, h1, h2⟩ := noDiv_spec n f 2 h (fun m m1 m2 => by omega)
  obtain ⟨d, hd, hdn, h⟩ := least_dvd hn
  rcases h with rfl | h
  · exact hd
  · have hlt : d < D := by
      refine Nat.lt_of_not_le (fun hle => ?_)
      have := Nat.mul_le_mul hle hle
      omega
    exact absurd hdn (h2 d hd.two hlt)
theorem p430751 : Prime 430751 := small (f := 660) (by decide) (by decide +kernel)
theorem p4153 : Prime 4153 := small (f := 70) (by decide) (by decide +kernel)
theorem p127 : Prime 127 := small (f := 12) (by decide) (by decide +kernel)
theorem p8574133 : Prime 8574133 := small (f := 3000) (by decide) (by decide +kernel)
theorem q3 : Prime 31757755568855353 := pock2 (q := 430751) (r := 4153) (a := 2) (b := 2) (by decide) (by decide) p430751 p4153 (by decide) (by decide +kernel) (by decide +kernel) (by decide +kernel)
theorem q4 : Prime 1919519569386763 := pock2 (q := 8574133) (r := 127) (a := 2) (b := 2) (by decide) (by decide) p8574133 p127 (by decide) (by decide +kernel) (by decide +kernel) (by decide +kernel)
theorem p13 : Prime 13 := small (f := 3) (by decide) (by decide +kernel)
theorem p569003 : Prime 569003 := small (f := 760) (by decide) (by decide +kernel)
theorem p2437 : Prime 2437 := small (f := 60) (by decide) (by decide +kernel)
theorem p27 : Prime 2773320623 := pock2 (q := 569003) (r := 2437) (a := 2) (b := 2) (by decide) (by decide) p569003 p2437 (by decide) (by decide +kernel) (by decide +kernel) (by decide +kernel)
theorem q5 : Prime 72106336199 := pock1 (q := 2773320623) (a := 2) (by decide) (by decide) p27 (by decide +kernel) (by decide +kernel)
theorem q2 : Prime 75445702479781427272750846543864801 := pock2 (q := 1919519569386763) (r := 72106336199) (a := 2) (b := 2) (by decide) (by decide) q4 q5 (by decide) (by decide +kernel) (by decide +kernel) (by decide +kernel)
theorem q1 : Prime 74058212732561358302231226437062788676166966415465897661863160754340907 := pock2 (q := 75445702479781427272750846543864801) (r := 31757755568855353) (a := 2) (b := 2) (by decide) (by decide +kernel) q2 q3 (by decide) (by decide +kernel) (by decide +kernel) (by decide +kernel)
theorem prime25519 : Prime 57896044618658097711785492504343953926634992332820282019728792003956564819949 := pock1 (q := 74058212732561358302231226437062788676166966415465897661863160754340907) (a := 2) (by decide) (by decide +kernel) q1 (by decide +kernel) (by decide +kernel)
end NT
end Go.Proofs.Ytdmpnogjpgoaaaa

set_option linter.unusedSimpArgs false
/-! Layer 1 by what is left modulo 2^255 - 19. -/
namespace Go.Proofs.Ytdmpnogjpgoaaaa
open Go.RowKit Go.Proofs.YtdmpnogjpgoaaaaW.PrintWords Go.Proofs.YtdmpnogjpgoaaaaW.PrintLast Go.Proofs.YtdmpnogjpgoaaaaW.PrintMore
/-- the text of what is left of a number -/
def T (x : Nat) : ByteArray := textV (x % P25)
/-- s is a text of 32 bytes, and x is left of it -/
structure IsT (s : ByteArray) (x : Nat) : Prop where
  size : s.size = 32
  val : leV s % P25 = x % P25
theorem P25_256 : P25 < 256 ^ 32 := by decide +kernel
theorem leV_T (x : Nat) : leV (T x) = x % P25 := by
  unfold T
  rw [leV_textV, Nat.mod_eq_of_lt (Nat.lt_trans (modP_P x) P25_256)]
theorem T_size (x : Nat) : (T x).size = 32 := textV_size _
theorem isT (x : Nat) : IsT (T x) x := ⟨T_size x, by rw [leV_T, Nat.mod_mod]⟩
theorem isT_of {s : ByteArray} (h : s.size = 32) : IsT s (leV s) := ⟨h, rfl⟩
theorem T_congr {x y : Nat} (h : x % P25 = y % P25) : T x = T y := by unfold T; rw [h]
theorem T_inj {x y : Nat} (h : T x = T y) : x % P25 = y % P25 := by rw [← leV_T, h, leV_T]
section
variable {s t : ByteArray} {x y : Nat} (w : World)
theorem AddT (hs : IsT s x) (ht : IsT t y) : Calls Try.prog 19 #[.string s, .string t] w fun e w' => e = .returned (.tuple #[.string (T (x + y)), .int .i64 0]) ∧ Below w.heap.size w w' := by
  have := Add_any s t w ⟨hs.size, ht.size⟩
  rw [Nat.add_mod, hs.val, ht.val, ← Nat.add_mod] at this
  exact this
theorem MulT (hs : IsT s x) (ht : IsT t y) : Calls Try.prog 21 #[.string s, .string t] w fun e w' => e = .returned (.tuple #[.string (T (x * y)), .int .i64 0]) ∧ Below w.heap.size w w' := by
  have := Mul_any s t w ⟨hs.size, ht.size⟩
  rw [Nat.mul_mod, hs.val, ht.val, ← Nat.mul_mod] at this
  exact this
theorem SubT (hs : IsT s x) (ht : IsT t y) : Calls Try.prog 20 #[.string s, .string t] w fun e w' => e = .returned (.tuple #[.string (T (x % P25 + P25 - y % P25)), .int .i64 0]) ∧ Below w.heap.size w w' := by
  have := Sub_any s t w ⟨hs.size, ht.size⟩
  rw [hs.val, ht.val] at this
  exact this
theorem NormT (hs : IsT s x) : Calls Try.prog 18 #[.string s] w fun e w' => e = .returned (.tuple #[.string (T x), .int .i64 0]) ∧ Below w.heap.size w w' := by
  have := Norm_any s w hs.size
  rw [hs.val] at this
  exact this
theorem InvT (hs : IsT s x) : Calls Try.prog 12 #[.string s] w fun e w' => e = .returned (.tuple #[.string (T ((x % P25) ^ (P25 - 2))), .int .i64 0]) ∧ Below w.heap.size w w' := by
  have := Inv_any s w hs.size
  rw [hs.val] at this
  exact this
end
theorem sub_back (x y : Nat) : T ((x + y) % P25 + P25 - y % P25) = T x := by
  refine T_congr ?_
  have h1 := modP_P x
  have h2 := modP_P y
  rw [Nat.add_mod x y]
  by_cases h : x % P25 + y % P25 < P25
  · rw [Nat.mod_eq_of_lt h, show x % P25 + y % P25 + P25 - y % P25 = x % P25 + P25 by omega, Nat.add_mod_right, Nat.mod_mod]
  · have e : (x % P25 + y % P25) % P25 = x % P25 + y % P25 - P25 := by rw [Nat.mod_eq_sub_mod (by omega), Nat.mod_eq_of_lt (by omega)]
    rw [e, show x % P25 + y % P25 - P25 + P25 - y % P25 = x % P25 by omega, Nat.mod_mod]
theorem prime_P25 : NT.Prime P25 := NT.prime25519
theorem inv_mul (x : Nat) (h : x % P25 ≠ 0) : x * (x % P25) ^ (P25 - 2) % P25 = 1 := by
  have hf := NT.fermat1 (a := x) prime_P25 (fun hd => h (Nat.mod_eq_zero_of_dvd hd))
  rw [Nat.mul_mod, Nat.pow_mod, Nat.mod_mod, ← Nat.pow_mod, ← Nat.mul_mod, ← Nat.pow_succ']
  have e : (P25 - 2).succ = P25 - 1 := by decide +kernel
  rw [e]
  exact hf
theorem T_zero : textV 0 = T 0 := by unfold T; rw [Nat.zero_mod]
theorem T_one : textV 1 = T 1 := by unfold T; rw [show 1 % P25 = 1 by decide +kernel]
end Go.Proofs.Ytdmpnogjpgoaaaa

namespace Go.Proofs.Ytdmpnogjpgoaaaa.Ed
/-! The group of a complete Edwards curve x² + y² = 1 + d x² y² over Z/n, n without divisors of 0. Plain Lean. -/
structure Fld (n : Nat) [NeZero n] (inv : Fin n → Fin n) : Prop where
  inv_mul : ∀ a : Fin n, a ≠ 0 → a * inv a = 1
  inv_zero : inv 0 = 0
  two : (2 : Fin n) ≠ 0
  one : (1 : Fin n) ≠ 0
section
variable {n : Nat} [NeZero n] {inv : Fin n → Fin n}
theorem Fld.dom (F : Fld n inv) {a b : Fin n} (h : a * b = 0) : a = 0 ∨ b = 0 := by
  by_cases ha : a = 0
  · exact .inl ha
  · have h1 := F.inv_mul a ha
    exact .inr (by grind)
theorem Fld.ne (F : Fld n inv) {a b : Fin n} (ha : a ≠ 0) (hb : b ≠ 0) : a * b ≠ 0 := fun h => (F.dom h).elim ha hb
theorem Fld.cancel (F : Fld n inv) {a b c : Fin n} (ha : a ≠ 0) (h : a * b = a * c) : b = c := by
  have h1 := F.inv_mul a ha
  grind
theorem Fld.div (F : Fld n inv) {a b c : Fin n} (ha : a ≠ 0) (h : a * b = c) : b = c * inv a := by
  have h1 := F.inv_mul a ha
  grind
variable {d : Fin n}
def On (d x y : Fin n) : Prop := x*x + y*y = 1 + d*x*x*y*y
theorem sq_id {x1 y1 x2 y2 e : Fin n} (e1 : On d x1 y1) (e2 : On d x2 y2) (he : e = d*x1*x2*y1*y2) (h1 : e*e = 1) :
    (x1 + e*y1)*(x1 + e*y1) = d*(x1*y1*(x2+y2))*(x1*y1*(x2+y2)) ∧ (x1 - e*y1)*(x1 - e*y1) = d*(x1*y1*(x2-y2))*(x1*y1*(x2-y2)) := by
  unfold On at *
  constructor <;> grind
theorem no_unit (F : Fld n inv) (hd : ∀ z : Fin n, z*z ≠ d) {x1 y1 x2 y2 e : Fin n} (e1 : On d x1 y1) (e2 : On d x2 y2) (he : e = d*x1*x2*y1*y2) : e*e ≠ 1 := by
  intro h1
  have h0 : e ≠ 0 := fun h => F.one (by rw [← h1, h]; grind)
  have hx1 : x1 ≠ 0 := fun h => h0 (by rw [he, h]; grind)
  have hy1 : y1 ≠ 0 := fun h => h0 (by rw [he, h]; grind)
  have hx2 : x2 ≠ 0 := fun h => h0 (by rw [he, h]; grind)
  obtain ⟨ha, hb⟩ := sq_id e1 e2 he h1
  have key : ∀ a b : Fin n, a ≠ 0 → b*b = d*a*a → False := fun a b ha h => hd (b * inv a) (by have := F.inv_mul a ha; grind)
  by_cases hs : x2 + y2 = 0
  · have hm : x2 - y2 ≠ 0 := fun h => (F.dom (a := 2) (b := x2) (by grind)).elim F.two hx2
    exact key _ _ (F.ne (F.ne hx1 hy1) hm) hb
  · exact key _ _ (F.ne (F.ne hx1 hy1) hs) ha
theorem den (F : Fld n inv) (hd : ∀ z : Fin n, z*z ≠ d) {x1 y1 x2 y2 : Fin n} (e1 : On d x1 y1) (e2 : On d x2 y2) : 1 + d*x1*x2*y1*y2 ≠ 0 ∧ 1 - d*x1*x2*y1*y2 ≠ 0 :=
  ⟨fun h => no_unit F hd e1 e2 rfl (by grind), fun h => no_unit F hd e1 e2 rfl (by grind)⟩
theorem closure_id (x1 y1 x2 y2 : Fin n) (h1 : On d x1 y1) (h2 : On d x2 y2) :
  (x1*y2+y1*x2)*(x1*y2+y1*x2)*(1-d*x1*x2*y1*y2)*(1-d*x1*x2*y1*y2) + (y1*y2-x1*x2)*(y1*y2-x1*x2)*(1+d*x1*x2*y1*y2)*(1+d*x1*x2*y1*y2) = (1-d*x1*x2*y1*y2)*(1-d*x1*x2*y1*y2)*(1+d*x1*x2*y1*y2)*(1+d*x1*x2*y1*y2) + d*(x1*y2+y1*x2)*(x1*y2+y1*x2)*(y1*y2-x1*x2)*(y1*y2-x1*x2) := by
  unfold On at *
  grind
theorem assoc_x (x1 y1 x2 y2 x3 y3 : Fin n) (e1 : On d x1 y1) (e2 : On d x2 y2) (e3 : On d x3 y3) :
  ((x1*y2+y1*x2)*(1-d*x1*x2*y1*y2)*y3 + (y1*y2-x1*x2)*(1+d*x1*x2*y1*y2)*x3) * ((1+d*x2*x3*y2*y3)*(1-d*x2*x3*y2*y3) + d*x1*y1*(x2*y3+y2*x3)*(y2*y3-x2*x3))
  = (x1*(y2*y3-x2*x3)*(1+d*x2*x3*y2*y3) + y1*(x2*y3+y2*x3)*(1-d*x2*x3*y2*y3)) * ((1+d*x1*x2*y1*y2)*(1-d*x1*x2*y1*y2) + d*(x1*y2+y1*x2)*(y1*y2-x1*x2)*x3*y3) := by
  unfold On at *
  grind
theorem assoc_y (x1 y1 x2 y2 x3 y3 : Fin n) (e1 : On d x1 y1) (e2 : On d x2 y2) (e3 : On d x3 y3) :
  ((y1*y2-x1*x2)*(1+d*x1*x2*y1*y2)*y3 - (x1*y2+y1*x2)*(1-d*x1*x2*y1*y2)*x3) * ((1+d*x2*x3*y2*y3)*(1-d*x2*x3*y2*y3) - d*x1*y1*(x2*y3+y2*x3)*(y2*y3-x2*x3))
  = (y1*(y2*y3-x2*x3)*(1+d*x2*x3*y2*y3) - x1*(x2*y3+y2*x3)*(1-d*x2*x3*y2*y3)) * ((1+d*x1*x2*y1*y2)*(1-d*x1*x2*y1*y2) - d*(x1*y2+y1*x2)*(y1*y2-x1*x2)*x3*y3) := by
  unfold On at *
  grind

structure Pt (d : Fin n) where
  x : Fin n
  y : Fin n
  on : On d x y
theorem Pt.ext' {P Q : Pt d} (hx : P.x = Q.x) (hy : P.y = Q.y) : P = Q := by
  cases P; cases Q; simp only at hx hy; subst hx; subst hy; rfl
/-- The field, and d no square in it. -/
structure Cur (n : Nat) [NeZero n] (inv : Fin n → Fin n) (d : Fin n) : Prop where
  F : Fld n inv
  nsq : ∀ z : Fin n, z*z ≠ d
theorem sum_on (C : Cur n inv d) (P Q : Pt d) : On d ((P.x*Q.y + P.y*Q.x) * inv (1 + d*P.x*Q.x*P.y*Q.y)) ((P.y*Q.y - P.x*Q.x) * inv (1 - d*P.x*Q.x*P.y*Q.y)) := by
  obtain ⟨h1, h2⟩ := den C.F C.nsq P.on Q.on
  have hc := closure_id P.x P.y Q.x Q.y P.on Q.on
  have i1 := C.F.inv_mul _ h1
  have i2 := C.F.inv_mul _ h2
  generalize 1 + d*P.x*Q.x*P.y*Q.y = a at *
  generalize 1 - d*P.x*Q.x*P.y*Q.y = b at *
  generalize P.x*Q.y + P.y*Q.x = u at *
  generalize P.y*Q.y - P.x*Q.x = v at *
  generalize inv a = a' at *
  generalize inv b = b' at *
  unfold On
  have : a*a*b*b*(u*a'*(u*a') + v*b'*(v*b')) = a*a*b*b*(1 + d*(u*a')*(u*a')*(v*b')*(v*b')) := by grind
  exact C.F.cancel (C.F.ne (C.F.ne (C.F.ne h1 h1) h2) h2) this
def Pt.add (C : Cur n inv d) (P Q : Pt d) : Pt d := ⟨(P.x*Q.y + P.y*Q.x) * inv (1 + d*P.x*Q.x*P.y*Q.y), (P.y*Q.y - P.x*Q.x) * inv (1 - d*P.x*Q.x*P.y*Q.y), sum_on C P Q⟩
theorem add_x (C : Cur n inv d) (P Q : Pt d) : (P.add C Q).x * (1 + d*P.x*Q.x*P.y*Q.y) = P.x*Q.y + P.y*Q.x := by
  have i1 := C.F.inv_mul _ (den C.F C.nsq P.on Q.on).1
  show (P.x*Q.y + P.y*Q.x) * inv (1 + d*P.x*Q.x*P.y*Q.y) * (1 + d*P.x*Q.x*P.y*Q.y) = _
  generalize inv (1 + d*P.x*Q.x*P.y*Q.y) = a at *
  grind
theorem add_y (C : Cur n inv d) (P Q : Pt d) : (P.add C Q).y * (1 - d*P.x*Q.x*P.y*Q.y) = P.y*Q.y - P.x*Q.x := by
  have i1 := C.F.inv_mul _ (den C.F C.nsq P.on Q.on).2
  show (P.y*Q.y - P.x*Q.x) * inv (1 - d*P.x*Q.x*P.y*Q.y) * (1 - d*P.x*Q.x*P.y*Q.y) = _
  generalize inv (1 - d*P.x*Q.x*P.y*Q.y) = a at *
  grind
theorem Pt.comm (C : Cur n inv d) (P Q : Pt d) : P.add C Q = Q.add C P := by
  obtain ⟨h1, h2⟩ := den C.F C.nsq P.on Q.on
  have a1 := add_x C P Q
  have a2 := add_x C Q P
  have b1 := add_y C P Q
  have b2 := add_y C Q P
  exact Pt.ext' (C.F.cancel h1 (by grind)) (C.F.cancel h2 (by grind))
def Pt.zero : Pt d := ⟨0, 1, by unfold On; grind⟩
theorem Pt.add_zero (C : Cur n inv d) (P : Pt d) : P.add C Pt.zero = P := by
  have h := P.on
  have a1 := add_x C P Pt.zero
  have b1 := add_y C P Pt.zero
  have e1 : (Pt.zero : Pt d).x = 0 := rfl
  have e2 : (Pt.zero : Pt d).y = 1 := rfl
  rw [e1, e2] at a1 b1
  exact Pt.ext' (by grind) (by grind)
theorem Pt.assoc (C : Cur n inv d) (P Q R : Pt d) : (P.add C Q).add C R = P.add C (Q.add C R) := by
  have hx := assoc_x P.x P.y Q.x Q.y R.x R.y P.on Q.on R.on
  have hy := assoc_y P.x P.y Q.x Q.y R.x R.y P.on Q.on R.on
  obtain ⟨p1, p2⟩ := den C.F C.nsq P.on Q.on
  obtain ⟨q1, q2⟩ := den C.F C.nsq Q.on R.on
  obtain ⟨s1, s2⟩ := den C.F C.nsq (P.add C Q).on R.on
  obtain ⟨t1, t2⟩ := den C.F C.nsq P.on (Q.add C R).on
  have a1 := add_x C P Q
  have a2 := add_y C P Q
  have b1 := add_x C Q R
  have b2 := add_y C Q R
  have c1 := add_x C (P.add C Q) R
  have c2 := add_y C (P.add C Q) R
  have d1 := add_x C P (Q.add C R)
  have d2 := add_y C P (Q.add C R)
  refine Pt.ext' ?_ ?_
  · clear c2 d2 hy s2 t2
    generalize ((P.add C Q).add C R).x = X at *
    generalize (P.add C (Q.add C R)).x = X' at *
    generalize (P.add C Q).x = sx at *
    generalize (P.add C Q).y = sy at *
    generalize (Q.add C R).x = tx at *
    generalize (Q.add C R).y = ty at *
    refine C.F.cancel (C.F.ne (C.F.ne (C.F.ne s1 t1) (C.F.ne p1 p2)) (C.F.ne q1 q2)) ?_
    have hU : (1 + d*sx*R.x*sy*R.y) * ((1 + d*P.x*Q.x*P.y*Q.y) * (1 - d*P.x*Q.x*P.y*Q.y)) = (1 + d*P.x*Q.x*P.y*Q.y) * (1 - d*P.x*Q.x*P.y*Q.y) + d*(P.x*Q.y+P.y*Q.x)*(P.y*Q.y-P.x*Q.x)*R.x*R.y := by
      rw [← a1, ← a2]; generalize (1 + d*P.x*Q.x*P.y*Q.y) = z1; generalize (1 - d*P.x*Q.x*P.y*Q.y) = z2; grind
    have hV : (1 + d*P.x*tx*P.y*ty) * ((1 + d*Q.x*R.x*Q.y*R.y) * (1 - d*Q.x*R.x*Q.y*R.y)) = (1 + d*Q.x*R.x*Q.y*R.y) * (1 - d*Q.x*R.x*Q.y*R.y) + d*P.x*P.y*(Q.x*R.y+Q.y*R.x)*(Q.y*R.y-Q.x*R.x) := by
      rw [← b1, ← b2]; generalize (1 + d*Q.x*R.x*Q.y*R.y) = z1; generalize (1 - d*Q.x*R.x*Q.y*R.y) = z2; grind
    rw [← hU, ← hV] at hx
    have hL : (P.x*Q.y+P.y*Q.x)*(1-d*P.x*Q.x*P.y*Q.y)*R.y + (P.y*Q.y-P.x*Q.x)*(1+d*P.x*Q.x*P.y*Q.y)*R.x = (sx*R.y + sy*R.x) * ((1 + d*P.x*Q.x*P.y*Q.y) * (1 - d*P.x*Q.x*P.y*Q.y)) := by
      rw [← a1, ← a2]; generalize (1 + d*P.x*Q.x*P.y*Q.y) = z1; generalize (1 - d*P.x*Q.x*P.y*Q.y) = z2; grind
    have hR : P.x*(Q.y*R.y-Q.x*R.x)*(1+d*Q.x*R.x*Q.y*R.y) + P.y*(Q.x*R.y+Q.y*R.x)*(1-d*Q.x*R.x*Q.y*R.y) = (P.x*ty + P.y*tx) * ((1 + d*Q.x*R.x*Q.y*R.y) * (1 - d*Q.x*R.x*Q.y*R.y)) := by
      rw [← b1, ← b2]; generalize (1 + d*Q.x*R.x*Q.y*R.y) = z1; generalize (1 - d*Q.x*R.x*Q.y*R.y) = z2; grind
    rw [hL, hR, ← c1, ← d1] at hx
    clear hL hR hU hV a1 a2 b1 b2 c1 d1 s1 t1 p1 p2 q1 q2
    generalize (1 + d*P.x*Q.x*P.y*Q.y) = z1 at *
    generalize (1 - d*P.x*Q.x*P.y*Q.y) = z2 at *
    generalize (1 + d*Q.x*R.x*Q.y*R.y) = z3 at *
    generalize (1 - d*Q.x*R.x*Q.y*R.y) = z4 at *
    generalize (1 + d*sx*R.x*sy*R.y) = z5 at *
    generalize (1 + d*P.x*tx*P.y*ty) = z6 at *
    grind
  · clear c1 d1 hx s1 t1
    generalize ((P.add C Q).add C R).y = X at *
    generalize (P.add C (Q.add C R)).y = X' at *
    generalize (P.add C Q).x = sx at *
    generalize (P.add C Q).y = sy at *
    generalize (Q.add C R).x = tx at *
    generalize (Q.add C R).y = ty at *
    refine C.F.cancel (C.F.ne (C.F.ne (C.F.ne s2 t2) (C.F.ne p1 p2)) (C.F.ne q1 q2)) ?_
    have hU : (1 - d*sx*R.x*sy*R.y) * ((1 + d*P.x*Q.x*P.y*Q.y) * (1 - d*P.x*Q.x*P.y*Q.y)) = (1 + d*P.x*Q.x*P.y*Q.y) * (1 - d*P.x*Q.x*P.y*Q.y) - d*(P.x*Q.y+P.y*Q.x)*(P.y*Q.y-P.x*Q.x)*R.x*R.y := by
      rw [← a1, ← a2]; generalize (1 + d*P.x*Q.x*P.y*Q.y) = z1; generalize (1 - d*P.x*Q.x*P.y*Q.y) = z2; grind
    have hV : (1 - d*P.x*tx*P.y*ty) * ((1 + d*Q.x*R.x*Q.y*R.y) * (1 - d*Q.x*R.x*Q.y*R.y)) = (1 + d*Q.x*R.x*Q.y*R.y) * (1 - d*Q.x*R.x*Q.y*R.y) - d*P.x*P.y*(Q.x*R.y+Q.y*R.x)*(Q.y*R.y-Q.x*R.x) := by
      rw [← b1, ← b2]; generalize (1 + d*Q.x*R.x*Q.y*R.y) = z1; generalize (1 - d*Q.x*R.x*Q.y*R.y) = z2; grind
    rw [← hU, ← hV] at hy
    have hL : (P.y*Q.y-P.x*Q.x)*(1+d*P.x*Q.x*P.y*Q.y)*R.y - (P.x*Q.y+P.y*Q.x)*(1-d*P.x*Q.x*P.y*Q.y)*R.x = (sy*R.y - sx*R.x) * ((1 + d*P.x*Q.x*P.y*Q.y) * (1 - d*P.x*Q.x*P.y*Q.y)) := by
      rw [← a1, ← a2]; generalize (1 + d*P.x*Q.x*P.y*Q.y) = z1; generalize (1 - d*P.x*Q.x*P.y*Q.y) = z2; grind
    have hR : P.y*(Q.y*R.y-Q.x*R.x)*(1+d*Q.x*R.x*Q.y*R.y) - P.x*(Q.x*R.y+Q.y*R.x)*(1-d*Q.x*R.x*Q.y*R.y) = (P.y*ty - P.x*tx) * ((1 + d*Q.x*R.x*Q.y*R.y) * (1 - d*Q.x*R.x*Q.y*R.y)) := by
      rw [← b1, ← b2]; generalize (1 + d*Q.x*R.x*Q.y*R.y) = z1; generalize (1 - d*Q.x*R.x*Q.y*R.y) = z2; grind
    rw [hL, hR, ← c2, ← d2] at hy
    clear hL hR hU hV a1 a2 b1 b2 c2 d2 s2 t2 p1 p2 q1 q2
    generalize (1 + d*P.x*Q.x*P.y*Q.y) = z1 at *
    generalize (1 - d*P.x*Q.x*P.y*Q.y) = z2 at *
    generalize (1 + d*Q.x*R.x*Q.y*R.y) = z3 at *
    generalize (1 - d*Q.x*R.x*Q.y*R.y) = z4 at *
    generalize (1 - d*sx*R.x*sy*R.y) = z5 at *
    generalize (1 - d*P.x*tx*P.y*ty) = z6 at *
    grind

/-- (X : Z) stands for the u-coordinate of P, u = (1 + y) / (1 - y). -/
def Rep (P : Pt d) (X Z : Fin n) : Prop := ∃ k, k ≠ 0 ∧ X = k * (1 + P.y) ∧ Z = k * (1 - P.y)
theorem rep_mk (F : Fld n inv) {P : Pt d} {X Z : Fin n} (h : X * (1 - P.y) = Z * (1 + P.y)) (h0 : ¬ (X = 0 ∧ Z = 0)) : Rep P X Z := by
  have h2 := F.inv_mul 2 F.two
  generalize inv 2 = t at *
  refine ⟨t * (X + Z), fun hk => h0 ?_, ?_, ?_⟩
  · have h3 : X + Z = 0 := by clear h; grind
    have h4 : X = 0 := (F.dom (a := 2) (b := X) (by grind)).resolve_left F.two
    exact ⟨h4, by rw [h4] at h3; grind⟩
  · grind
  · grind
theorem rep_zero (F : Fld n inv) : Rep (Pt.zero : Pt d) 1 0 := by
  refine rep_mk F ?_ (fun h => F.one h.1)
  show (1 : Fin n) * (1 - 1) = 0 * (1 + 1)
  grind
/-- A = 2 (1 + d) / (1 - d), A = 486662 in the end. -/
theorem rep_dbl (C : Cur n inv d) {A : Fin n} (hA : A * (1 - d) = 2 * (1 + d)) {P : Pt d} {X Z : Fin n} (h : Rep P X Z) :
    Rep (P.add C P) ((X*X - Z*Z)*(X*X - Z*Z)) (4*X*Z*(X*X + A*X*Z + Z*Z)) := by
  obtain ⟨k, hk, rfl, rfl⟩ := h
  have hon := P.on
  obtain ⟨p1, p2⟩ := den C.F C.nsq P.on P.on
  have a2 := add_y C P P
  have hd1 : 1 - d ≠ 0 := fun h => C.nsq 1 (by grind)
  have h4 : (4 : Fin n) ≠ 0 := fun h => C.F.ne C.F.two C.F.two (by grind)
  unfold On at hon
  have c0 : ∀ Y : Fin n, Y = (P.add C P).y → _ := fun Y h => h
  generalize hY : (P.add C P).y = Y at *
  refine rep_mk C.F ?_ ?_
  · rw [hY]
    generalize P.x = x at *
    generalize P.y = y at *
    refine C.F.cancel (C.F.ne hd1 p2) ?_
    clear p1 p2 hY hd1 h4 c0
    grind
  · rintro ⟨h1, h2⟩
    generalize P.x = x at *
    generalize P.y = y at *
    have h3 : y = 0 := by
      have : (4*k*k*y)*(4*k*k*y) = 0 := by rw [← h1]; grind
      rcases C.F.dom this with h | h <;>
        exact (C.F.dom h).elim (fun h => absurd h (C.F.ne (C.F.ne h4 hk) hk)) id
    subst h3
    have h5 : (k*k)*(k*k)*(4*(A+2)) = 0 := by rw [← h2]; grind
    have h6 : A + 2 = 0 := by
      rcases C.F.dom h5 with h | h
      · exact absurd h (C.F.ne (C.F.ne hk hk) (C.F.ne hk hk))
      · exact (C.F.dom h).elim (fun h => absurd h h4) id
    exact h4 (by grind)
def Pt.neg (P : Pt d) : Pt d := ⟨0 - P.x, P.y, by have := P.on; unfold On at *; grind⟩
theorem Pt.neg_add (C : Cur n inv d) (P : Pt d) : P.neg.add C P = Pt.zero := by
  have hon := P.on
  obtain ⟨p1, p2⟩ := den C.F C.nsq P.neg.on P.on
  have a1 := add_x C P.neg P
  have a2 := add_y C P.neg P
  have e1 : P.neg.x = 0 - P.x := rfl
  have e2 : P.neg.y = P.y := rfl
  rw [e1, e2] at a1 a2 p1 p2
  unfold On at hon
  exact Pt.ext' (C.F.cancel p1 (by show _ = _ * (0 : Fin n); grind)) (C.F.cancel p2 (by show _ = _ * (1 : Fin n); grind))
theorem plus_id (k m a b : Fin n) : (m*(1+b) - m*(1-b))*(k*(1+a) + k*(1-a)) + (m*(1+b) + m*(1-b))*(k*(1+a) - k*(1-a)) = 4*k*m*(a+b) := by grind
theorem minus_id (k m a b : Fin n) : (m*(1+b) - m*(1-b))*(k*(1+a) + k*(1-a)) - (m*(1+b) + m*(1-b))*(k*(1+a) - k*(1-a)) = 4*k*m*(b-a) := by grind
theorem rep_add (C : Cur n inv d) {P Q : Pt d} {u X2 Z2 X3 Z3 : Fin n} (hu : u * (1 - P.y) = 1 + P.y) (hu0 : u ≠ 0) (h2 : Rep Q X2 Z2) (h3 : Rep (Q.add C P) X3 Z3) :
    Rep (Q.add C (Q.add C P)) (((X3 - Z3)*(X2 + Z2) + (X3 + Z3)*(X2 - Z2))*((X3 - Z3)*(X2 + Z2) + (X3 + Z3)*(X2 - Z2))) (u * (((X3 - Z3)*(X2 + Z2) - (X3 + Z3)*(X2 - Z2))*((X3 - Z3)*(X2 + Z2) - (X3 + Z3)*(X2 - Z2)))) := by
  obtain ⟨k, hk, rfl, rfl⟩ := h2
  obtain ⟨m, hm, rfl, rfl⟩ := h3
  have hP : Q.neg.add C (Q.add C P) = P := by rw [← Pt.assoc, Pt.neg_add, Pt.comm, Pt.add_zero]
  generalize Q.add C P = R at *
  have f1 := add_y C Q R
  have f2 := add_y C Q.neg R
  rw [hP] at f2
  have e1 : Q.neg.x = 0 - Q.x := rfl
  have e2 : Q.neg.y = Q.y := rfl
  rw [e1, e2] at f2
  obtain ⟨p1, p2⟩ := den C.F C.nsq Q.on R.on
  have hq := Q.on
  have hr := R.on
  have hp := P.on
  have h4 : (4 : Fin n) ≠ 0 := fun h => C.F.ne C.F.two C.F.two (by grind)
  have hd1 : 1 - d ≠ 0 := fun h => C.nsq 1 (by grind)
  have hy1 : 1 - P.y ≠ 0 := fun h => by
    have : P.y = 1 := by grind
    rw [this] at hu
    exact C.F.two (by grind)
  unfold On at hq hr hp
  generalize hY : (Q.add C R).y = Y at *
  refine rep_mk C.F ?_ ?_
  · rw [hY]
    generalize Q.x = x1 at *
    generalize Q.y = y1 at *
    generalize R.x = x2 at *
    generalize R.y = y2 at *
    generalize P.y = yp at *
    have key : (y1+y2)*(y1+y2)*(1-Y)*(1-yp) = (y2-y1)*(y2-y1)*(1+Y)*(1+yp) := by
      refine C.F.cancel (C.F.ne p1 p2) ?_
      have hpoly : (y1+y2)*(y1+y2)*((1-d*x1*x2*y1*y2 - (y1*y2 - x1*x2))*(1+d*x1*x2*y1*y2 - (y1*y2 + x1*x2))) = (y2-y1)*(y2-y1)*((1-d*x1*x2*y1*y2 + (y1*y2 - x1*x2))*(1+d*x1*x2*y1*y2 + (y1*y2 + x1*x2))) := by
        clear hY hd1 h4 hy1 hu hu0 hP hp p1 p2 f1 f2 e1 e2
        grind
      have f2' : yp * (1+d*x1*x2*y1*y2) = y1*y2 + x1*x2 := by clear hpoly hq hr hp hu f1; grind
      clear hY hd1 h4 hy1 hu hu0 hP hp p1 p2 hq hr f2 e1 e2
      rw [← f1, ← f2'] at hpoly
      generalize 1+d*x1*x2*y1*y2 = z1 at *
      generalize 1-d*x1*x2*y1*y2 = z2 at *
      clear f1 f2'
      grind
    refine C.F.cancel hy1 ?_
    clear f1 f2 hq hr hp
    grind
  · rintro ⟨h1, h2⟩
    rw [plus_id] at h1
    rw [minus_id] at h2
    have hs : Q.y + R.y = 0 := by
      rcases C.F.dom h1 with h | h <;>
        exact (C.F.dom h).elim (fun h => absurd h (C.F.ne (C.F.ne h4 hk) hm)) id
    have ht : R.y - Q.y = 0 := by
      rcases C.F.dom h2 with h | h
      · exact absurd h hu0
      rcases C.F.dom h with h | h <;>
        exact (C.F.dom h).elim (fun h => absurd h (C.F.ne (C.F.ne h4 hk) hm)) id
    clear h1 h2
    have hq0 : Q.y = 0 := (C.F.dom (a := 2) (b := Q.y) (by clear f2 hq hr hp hu; generalize Q.y = a at *; generalize R.y = b at *; grind)).resolve_left C.F.two
    have hr0 : R.y = 0 := by rw [hq0] at hs; clear f2 hq hr hp hu ht; grind
    rw [hq0] at f2 hq
    rw [hr0] at f2 hr
    have hq1 : Q.x * Q.x = 1 := by clear f2 hr hp hY ; grind
    have hr1 : R.x * R.x = 1 := by clear f2 hq hp hY ; grind
    have f3 : P.y = Q.x * R.x := by clear hq hr hp hq1 hr1 ; grind
    have h5 : (1 - P.y) * (1 + P.y) = 0 := by rw [f3]; clear f3 f2 hq hr hp; generalize Q.x = a at *; generalize R.x = b at *; grind
    have h6 := (C.F.dom h5).resolve_left hy1
    rw [h6] at hu
    exact (C.F.dom hu).elim hu0 hy1

/-! ### multiples -/
def Pt.mul (C : Cur n inv d) : Nat → Pt d → Pt d
  | 0, _ => Pt.zero
  | m + 1, P => (Pt.mul C m P).add C P
theorem Pt.zero_add (C : Cur n inv d) (P : Pt d) : Pt.zero.add C P = P := by rw [Pt.comm, Pt.add_zero]
theorem Pt.mul_add (C : Cur n inv d) (P : Pt d) (m : Nat) : ∀ k : Nat, Pt.mul C (m + k) P = (Pt.mul C m P).add C (Pt.mul C k P)
  | 0 => (Pt.add_zero C _).symm
  | k + 1 => by
    show (Pt.mul C (m + k) P).add C P = _
    rw [Pt.mul_add C P m k, Pt.assoc]; rfl
theorem Pt.mul_zero (C : Cur n inv d) : ∀ m : Nat, Pt.mul C m (Pt.zero : Pt d) = Pt.zero
  | 0 => rfl
  | m + 1 => by show (Pt.mul C m Pt.zero).add C Pt.zero = _; rw [Pt.mul_zero C m, Pt.add_zero]
theorem Pt.mul_mul (C : Cur n inv d) (P : Pt d) (k : Nat) : ∀ m : Nat, Pt.mul C m (Pt.mul C k P) = Pt.mul C (m * k) P
  | 0 => by rw [Nat.zero_mul]; rfl
  | m + 1 => by
    show (Pt.mul C m (Pt.mul C k P)).add C (Pt.mul C k P) = _
    rw [Pt.mul_mul C P k m, Nat.succ_mul, Pt.mul_add]
theorem Pt.mul_one (C : Cur n inv d) (P : Pt d) : Pt.mul C 1 P = P := Pt.zero_add C P
/-! ### the ladder -/
structure St (n : Nat) where
  x2 : Fin n
  z2 : Fin n
  x3 : Fin n
  z3 : Fin n
def St.swap (s : St n) : St n := ⟨s.x3, s.z3, s.x2, s.z2⟩
def St.step (c u : Fin n) (s : St n) : St n :=
  let a := s.x2 + s.z2
  let b := s.x2 - s.z2
  let e := a * a - b * b
  let da := (s.x3 - s.z3) * a
  let cb := (s.x3 + s.z3) * b
  ⟨(a * a) * (b * b), e * (a * a + c * e), (da + cb) * (da + cb), u * ((da - cb) * (da - cb))⟩
def St.bit (c u : Fin n) (s : St n) (b : Bool) : St n := if b then (s.swap.step c u).swap else s.step c u
def lad (c u : Fin n) (l : List Bool) : St n := l.foldl (fun s b => s.bit c u b) ⟨1, 0, u, 1⟩
def out (inv : Fin n → Fin n) (s : St n) : Fin n := s.x2 * inv s.z2
def valL (l : List Bool) : Nat := l.foldl (fun m b => 2 * m + b.toNat) 0
theorem step_eq (c u : Fin n) (s : St n) : s.step c u = ⟨(s.x2*s.x2 - s.z2*s.z2)*(s.x2*s.x2 - s.z2*s.z2), 4*s.x2*s.z2*(s.x2*s.x2 + (4*c+2)*s.x2*s.z2 + s.z2*s.z2),
    ((s.x3 - s.z3)*(s.x2 + s.z2) + (s.x3 + s.z3)*(s.x2 - s.z2))*((s.x3 - s.z3)*(s.x2 + s.z2) + (s.x3 + s.z3)*(s.x2 - s.z2)),
    u * (((s.x3 - s.z3)*(s.x2 + s.z2) - (s.x3 + s.z3)*(s.x2 - s.z2))*((s.x3 - s.z3)*(s.x2 + s.z2) - (s.x3 + s.z3)*(s.x2 - s.z2)))⟩ := by
  unfold St.step
  simp only [St.mk.injEq]
  generalize s.x2 = x2
  generalize s.z2 = z2
  refine ⟨?_, ?_, trivial, trivial⟩ <;> grind
/-- s stands for m P and (m + 1) P -/
structure Has (C : Cur n inv d) (P : Pt d) (m : Nat) (s : St n) : Prop where
  lo : Rep (Pt.mul C m P) s.x2 s.z2
  hi : Rep (Pt.mul C (m + 1) P) s.x3 s.z3
theorem rep_swap (x2 z2 x3 z3 u : Fin n) : (((x3 - z3)*(x2 + z2) + (x3 + z3)*(x2 - z2))*((x3 - z3)*(x2 + z2) + (x3 + z3)*(x2 - z2))) = (((x2 - z2)*(x3 + z3) + (x2 + z2)*(x3 - z3))*((x2 - z2)*(x3 + z3) + (x2 + z2)*(x3 - z3))) ∧
    (u * (((x3 - z3)*(x2 + z2) - (x3 + z3)*(x2 - z2))*((x3 - z3)*(x2 + z2) - (x3 + z3)*(x2 - z2)))) = (u * (((x2 - z2)*(x3 + z3) - (x2 + z2)*(x3 - z3))*((x2 - z2)*(x3 + z3) - (x2 + z2)*(x3 - z3)))) := by
  constructor <;> grind
theorem Has.bit (C : Cur n inv d) {c : Fin n} (hc : (4*c+2) * (1 - d) = 2 * (1 + d)) {P : Pt d} {u : Fin n} (hu : u * (1 - P.y) = 1 + P.y) (hu0 : u ≠ 0) {m : Nat} {s : St n} (h : Has C P m s) (b : Bool) : Has C P (2 * m + b.toNat) (s.bit c u b) := by
  have hdbl := rep_dbl C hc h.lo
  have hdbh := rep_dbl C hc h.hi
  have hadd := rep_add C hu hu0 h.lo h.hi
  have e0 : (Pt.mul C m P).add C (Pt.mul C m P) = Pt.mul C (2 * m) P := by rw [Nat.two_mul, Pt.mul_add]
  have e1 : (Pt.mul C m P).add C ((Pt.mul C m P).add C P) = Pt.mul C (2 * m + 1) P := by
    show _ = (Pt.mul C (2 * m) P).add C P
    rw [← e0, Pt.assoc]
  have e2 : (Pt.mul C (m + 1) P).add C (Pt.mul C (m + 1) P) = Pt.mul C (2 * m + 1 + 1) P := by rw [← Pt.mul_add, show m + 1 + (m + 1) = 2 * m + 1 + 1 by omega]
  rw [e0] at hdbl
  rw [e2] at hdbh
  rw [e1] at hadd
  unfold St.bit
  cases b with
  | false =>
    rw [if_neg (by decide), step_eq]
    exact ⟨hdbl, hadd⟩
  | true =>
    rw [if_pos rfl, step_eq]
    refine ⟨?_, hdbh⟩
    obtain ⟨r1, r2⟩ := rep_swap s.x3 s.z3 s.x2 s.z2 u
    show Rep _ (((s.x2 - s.z2)*(s.x3 + s.z3) + (s.x2 + s.z2)*(s.x3 - s.z3))*((s.x2 - s.z2)*(s.x3 + s.z3) + (s.x2 + s.z2)*(s.x3 - s.z3))) (u * (((s.x2 - s.z2)*(s.x3 + s.z3) - (s.x2 + s.z2)*(s.x3 - s.z3))*((s.x2 - s.z2)*(s.x3 + s.z3) - (s.x2 + s.z2)*(s.x3 - s.z3))))
    rw [r1, r2]
    exact hadd
theorem Has.all (C : Cur n inv d) {c : Fin n} (hc : (4*c+2) * (1 - d) = 2 * (1 + d)) {P : Pt d} {u : Fin n} (hu : u * (1 - P.y) = 1 + P.y) (hu0 : u ≠ 0) : ∀ (l : List Bool) {m : Nat} {s : St n}, Has C P m s → Has C P (l.foldl (fun m b => 2 * m + b.toNat) m) (l.foldl (fun s b => s.bit c u b) s)
  | [], _, _, h => h
  | b :: l, _, _, h => Has.all C hc hu hu0 l (h.bit C hc hu hu0 b)
/-- the u-coordinate of a point, 0 of the neutral one -/
def uOf (inv : Fin n → Fin n) (P : Pt d) : Fin n := (1 + P.y) * inv (1 - P.y)
theorem u_of (F : Fld n inv) {P : Pt d} {u : Fin n} (h0 : 1 - P.y ≠ 0) (h9 : 1 + P.y = (1 - P.y) * u) : uOf inv P = u := by
  have i1 := F.inv_mul _ h0
  unfold uOf
  rw [h9]
  generalize 1 - P.y = t at *
  generalize inv t = s at *
  grind
theorem out_rep (F : Fld n inv) {P : Pt d} {X Z : Fin n} (h : Rep P X Z) : X * inv Z = uOf inv P := by
  obtain ⟨k, hk, rfl, rfl⟩ := h
  unfold uOf
  by_cases h0 : 1 - P.y = 0
  · rw [h0]
    have : k * (0 : Fin n) = 0 := by grind
    rw [this, F.inv_zero]; grind
  · have i1 := F.inv_mul _ h0
    have i2 := F.inv_mul _ (F.ne hk h0)
    refine F.cancel (F.ne hk h0) ?_
    generalize inv (k * (1 - P.y)) = a at *
    generalize inv (1 - P.y) = b at *
    generalize P.y = y at *
    clear h0
    grind
theorem u_ne (C : Cur n inv d) {P : Pt d} (h : uOf inv P ≠ 0) : uOf inv P * (1 - P.y) = 1 + P.y := by
  unfold uOf at *
  by_cases h0 : 1 - P.y = 0
  · rw [h0, C.F.inv_zero] at h
    exact absurd (by grind) h
  · have i1 := C.F.inv_mul _ h0
    generalize inv (1 - P.y) = b at *
    grind
theorem u_zero (C : Cur n inv d) {P : Pt d} (h : uOf inv P = 0) : P.add C P = Pt.zero := by
  have hd1 : 1 - d ≠ 0 := fun h => C.nsq 1 (by grind)
  have hon := P.on
  obtain ⟨p1, p2⟩ := den C.F C.nsq P.on P.on
  have a1 := add_x C P P
  have a2 := add_y C P P
  unfold uOf at h
  unfold On at hon
  have hyy : P.y * P.y = 1 := by
    rcases C.F.dom h with h | h
    · have : P.y = 0 - 1 := by grind
      rw [this]; grind
    · by_cases h0 : 1 - P.y = 0
      · have : P.y = 1 := by grind
        rw [this]; grind
      · have i1 := C.F.inv_mul _ h0
        rw [h] at i1
        exact absurd (by grind) C.F.one
  have hx : P.x = 0 := by
    have h2 : (1 - d) * (P.x * P.x) = 0 := by clear a1 a2 p1 p2 h; grind
    have h3 := (C.F.dom h2).resolve_left hd1
    exact (C.F.dom h3).elim id id
  refine Pt.ext' ?_ ?_
  · show _ = (0 : Fin n)
    rw [hx] at a1
    clear a2 hyy hon p1 p2 h hd1
    generalize (P.add C P).x = X at *
    generalize P.y = y at *
    grind
  · show _ = (1 : Fin n)
    rw [hx] at a2
    clear a1 hon p1 p2 h hd1
    generalize (P.add C P).y = Y at *
    generalize P.y = y at *
    grind
theorem dead (c : Fin n) (l : List Bool) : ∀ s : St n, s.z2 = 0 → s.z3 = 0 → (l.foldl (fun s b => s.bit c 0 b) s).z2 = 0 := by
  induction l with
  | nil => intro s h _; exact h
  | cons b l ih =>
    intro s h2 h3
    refine ih _ ?_ ?_
    · cases b with
      | false => show (s.step c 0).z2 = 0; rw [step_eq]; show 4*s.x2*s.z2*_ = 0; rw [h2]; grind
      | true => show (s.swap.step c 0).z3 = 0; rw [step_eq]; show (0 : Fin n) * _ = 0; grind
    · cases b with
      | false => show (s.step c 0).z3 = 0; rw [step_eq]; show (0 : Fin n) * _ = 0; grind
      | true => show (s.swap.step c 0).z2 = 0; rw [step_eq]; show 4*s.x3*s.z3*_ = 0; rw [h3]; grind
theorem dead0 (F : Fld n inv) (c : Fin n) (l : List Bool) : out inv (lad c 0 (true :: l)) = 0 := by
  unfold out lad
  have : (List.foldl (fun s b => s.bit c 0 b) (⟨1, 0, 0, 1⟩ : St n) (true :: l)).z2 = 0 := by
    show (List.foldl (fun s b => s.bit c 0 b) (St.bit c 0 (⟨1, 0, 0, 1⟩ : St n) true) l).z2 = 0
    refine dead c l _ ?_ ?_
    · show (St.step c 0 (⟨1, 0, 0, 1⟩ : St n).swap).z3 = 0; rw [step_eq]; show (0 : Fin n) * _ = 0; grind
    · show (St.step c 0 (⟨1, 0, 0, 1⟩ : St n).swap).z2 = 0; rw [step_eq]; show 4*(0 : Fin n)*1*_ = 0; grind
  rw [this, F.inv_zero]; grind
theorem mul_even (C : Cur n inv d) {P : Pt d} (h : P.add C P = Pt.zero) {m : Nat} (hm : m % 2 = 0) : Pt.mul C m P = Pt.zero := by
  obtain ⟨k, rfl⟩ : ∃ k, m = k * 2 := ⟨m / 2, by omega⟩
  rw [← Pt.mul_mul]
  have : Pt.mul C 2 P = Pt.zero := by show (Pt.mul C 1 P).add C P = _; rw [Pt.mul_one, h]
  rw [this, Pt.mul_zero]
/-- The ladder multiplies: the u-coordinate of a point comes to that of its multiple. -/
theorem lad_mul (C : Cur n inv d) {c : Fin n} (hc : (4*c+2) * (1 - d) = 2 * (1 + d)) (P : Pt d) (l : List Bool) (hev : valL (true :: l) % 2 = 0) : out inv (lad c (uOf inv P) (true :: l)) = uOf inv (Pt.mul C (valL (true :: l)) P) := by
  by_cases h0 : uOf inv P = 0
  · rw [h0, dead0 C.F, mul_even C (u_zero C h0) hev]
    unfold uOf
    show (0 : Fin n) = (1 + 1) * inv (1 - 1)
    rw [show (1 : Fin n) - 1 = 0 by grind, C.F.inv_zero]; grind
  · have hu := u_ne C h0
    have hs : Has C P 0 (⟨1, 0, uOf inv P, 1⟩ : St n) := ⟨rep_zero C.F, by
      show Rep (Pt.mul C 1 P) _ _
      rw [Pt.mul_one]
      refine rep_mk C.F ?_ (fun h => C.F.one h.2)
      rw [hu]; generalize P.y = y; grind⟩
    have := Has.all C hc hu h0 (true :: l) hs
    exact out_rep C.F this.lo
/-- Two such multiplications may change places. -/
theorem lad_comm (C : Cur n inv d) {c : Fin n} (hc : (4*c+2) * (1 - d) = 2 * (1 + d)) (P : Pt d) (l m : List Bool) (hl : valL (true :: l) % 2 = 0) (hm : valL (true :: m) % 2 = 0) :
    out inv (lad c (out inv (lad c (uOf inv P) (true :: l))) (true :: m)) = out inv (lad c (out inv (lad c (uOf inv P) (true :: m))) (true :: l)) := by
  rw [lad_mul C hc P l hl, lad_mul C hc P m hm, lad_mul C hc _ m hm, lad_mul C hc _ l hl, Pt.mul_mul, Pt.mul_mul, Nat.mul_comm]
end
end Go.Proofs.Ytdmpnogjpgoaaaa.Ed

/-! Curve25519: numbers modulo 2^255 - 19, the curve, its base point. -/
namespace Go.Proofs.Ytdmpnogjpgoaaaa
instance : NeZero P25 := ⟨by decide +kernel⟩
/-- A number modulo 2^255 - 19. -/
abbrev F25 : Type := Fin P25
def pw25 (a e : Nat) : Nat := a ^ e % P25
theorem pw25_eq (a e : Nat) : pw25 a e = a ^ e % P25 := rfl
theorem pw25_lt (a e : Nat) : pw25 a e < P25 := Nat.mod_lt _ (by decide +kernel)
attribute [irreducible] pw25
def inv25 (a : F25) : F25 := ⟨pw25 a.val (P25 - 2), pw25_lt _ _⟩
def d25 : F25 := ⟨20800338683988658368647408995589388737092878452977063003340006470870624536394, by decide +kernel⟩
def c25 : F25 := ⟨121665, by decide +kernel⟩
theorem mul_val25 (a b : F25) : (a * b).val = a.val * b.val % P25 := rfl
theorem add_val25 (a b : F25) : (a + b).val = (a.val + b.val) % P25 := rfl
theorem sub_val25 (a b : F25) : (a - b).val = (a.val + P25 - b.val) % P25 := by
  show (P25 - b.val + a.val) % P25 = _
  have := b.isLt
  congr 1
  omega
theorem one_val25 : (1 : F25).val = 1 := by decide +kernel
theorem ne_val25 {a : F25} (h : a ≠ 0) : a.val ≠ 0 := fun e => h (Fin.ext e)
theorem zero_pow25 (e : Nat) (he : e ≠ 0) : pw25 (0 : F25).val e = (0 : F25).val := by
  rw [pw25_eq]
  have e0 : (0 : F25).val = 0 := rfl
  rw [e0, Nat.zero_pow (by omega), Nat.zero_mod]
theorem inv_pow25 (a e : Nat) (hf : a ^ (e + 1) % P25 = 1) : a * pw25 a e % P25 = 1 := by
  rw [pw25_eq, Nat.mul_mod, Nat.mod_mod, ← Nat.mul_mod, ← Nat.pow_succ']
  exact hf
theorem e25 : P25 - 2 + 1 = P25 - 1 := by decide +kernel
theorem pmd25 : NT.pm P25 255 d25.val ((P25 - 1) / 2) ≠ 1 := by decide +kernel
theorem lt25 : (P25 - 1) / 2 < 2 ^ 255 := by decide +kernel
theorem fld25 : Ed.Fld P25 inv25 where
  inv_mul a h := by
    refine Fin.ext ?_
    rw [mul_val25, one_val25]
    have hd : ¬ P25 ∣ a.val := fun hd => ne_val25 h (Nat.eq_zero_of_dvd_of_lt hd a.isLt)
    have hf := NT.fermat1 (a := a.val) prime_P25 hd
    rw [← e25] at hf
    exact inv_pow25 a.val (P25 - 2) hf
  inv_zero := by
    refine Fin.ext ?_
    exact zero_pow25 (P25 - 2) (by decide +kernel)
  two := by decide +kernel
  one := by decide +kernel
theorem half25 : (P25 - 1) / 2 * 2 = P25 - 1 := by decide +kernel
theorem nsq25 (z : F25) : z * z ≠ d25 := by
  intro h
  have hv : z.val * z.val % P25 = d25.val := by rw [← h]; rfl
  have hz : ¬ P25 ∣ z.val := fun hd => by
    have : z.val = 0 := Nat.eq_zero_of_dvd_of_lt hd z.isLt
    rw [this, Nat.zero_mul, Nat.zero_mod] at hv
    exact absurd hv (by decide +kernel)
  have hf := NT.fermat1 (a := z.val) prime_P25 hz
  have hp := pmd25
  have hl := lt25
  have hh := half25
  generalize (P25 - 1) / 2 = e at hp hl hh
  rw [← hh] at hf
  have h1 : d25.val ^ e % P25 = 1 := by
    rw [← hv, ← Nat.pow_mod, ← Nat.pow_two, ← Nat.pow_mul, Nat.mul_comm]
    exact hf
  rw [← NT.pm_eq P25 255 _ _ hl] at h1
  exact hp h1
theorem cur25 : Ed.Cur P25 inv25 d25 := ⟨fld25, nsq25⟩
theorem hc25 : (4 * c25 + 2) * (1 - d25) = 2 * (1 + d25) := by decide +kernel
def base25 : Ed.Pt d25 := ⟨⟨9771384041963202563870679428059935816164187996444183106833894008023910952347, by decide +kernel⟩, ⟨46316835694926478169428394003475163141307993866256225615783033603165251855960, by decide +kernel⟩, by unfold Ed.On; decide +kernel⟩
theorem base_ne : (1 : F25) - base25.y ≠ 0 := by decide +kernel
theorem base_9 : (1 : F25) + base25.y = (1 - base25.y) * 9 := by decide +kernel
theorem uBase : Ed.uOf inv25 base25 = 9 := Ed.u_of fld25 base_ne base_9
/-- Two keys' base points, each times the other key, are the same point. -/
theorem shares25 (l m : List Bool) (hl : Ed.valL (true :: l) % 2 = 0) (hm : Ed.valL (true :: m) % 2 = 0) :
    Ed.out inv25 (Ed.lad c25 (Ed.out inv25 (Ed.lad c25 9 (true :: l))) (true :: m)) = Ed.out inv25 (Ed.lad c25 (Ed.out inv25 (Ed.lad c25 9 (true :: m))) (true :: l)) := by
  rw [← uBase]
  exact Ed.lad_comm cur25 hc25 base25 l m hl hm
end Go.Proofs.Ytdmpnogjpgoaaaa

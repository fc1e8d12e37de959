/- Fermat's little theorem, Pocklington's criterion, and that 2^255 - 19 is a prime: plain Lean. -/
namespace Go.Proofs.Ytdmpnogjpgoaaaa
namespace NT
/-- Pascal's numbers. -/
def C : Nat → Nat → Nat
  | _, 0 => 1
  | 0, _ + 1 => 0
  | n + 1, k + 1 => C n k + C n (k + 1)
theorem C_zero (n : Nat) : C n 0 = 1 := by cases n <;> rfl
theorem C_step (n k : Nat) : C (n + 1) (k + 1) = C n k + C n (k + 1) := rfl
theorem C_big : ∀ n k : Nat, n < k → C n k = 0
  | 0, 0, h => by omega
  | 0, k + 1, _ => rfl
  | n + 1, 0, h => by omega
  | n + 1, k + 1, h => by rw [C_step, C_big n k (by omega), C_big n (k + 1) (by omega)]
theorem C_self : ∀ n : Nat, C n n = 1
  | 0 => rfl
  | n + 1 => by rw [C_step, C_self n, C_big n (n + 1) (by omega)]
theorem C_absorb : ∀ n k : Nat, (k + 1) * C (n + 1) (k + 1) = (n + 1) * C n k
  | 0, 0 => rfl
  | 0, k + 1 => by rw [C_big 1 (k + 1 + 1) (by omega), C_big 0 (k + 1) (by omega)]; simp
  | n + 1, 0 => by
    have h := C_absorb n 0
    have e : C (n + 1 + 1) (0 + 1) = C (n + 1) 0 + C (n + 1) (0 + 1) := rfl
    rw [C_zero] at h e ⊢
    rw [e]
    simp only [Nat.zero_add, Nat.one_mul, Nat.mul_one] at h ⊢
    omega
  | n + 1, k + 1 => by
    have h1 := C_absorb n k
    have h2 := C_absorb n (k + 1)
    have e1 : C (n + 1 + 1) (k + 1 + 1) = C (n + 1) (k + 1) + C (n + 1) (k + 1 + 1) := rfl
    have e2 : C (n + 1) (k + 1) = C n k + C n (k + 1) := rfl
    rw [e1, Nat.mul_add, h2]
    have : (k + 1 + 1) * C (n + 1) (k + 1) = (k + 1) * C (n + 1) (k + 1) + C (n + 1) (k + 1) := by rw [Nat.add_mul (k + 1) 1, Nat.one_mul]
    rw [this, h1]
    have : (n + 1 + 1) * C (n + 1) (k + 1) = (n + 1) * C (n + 1) (k + 1) + C (n + 1) (k + 1) := by rw [Nat.add_mul (n + 1) 1, Nat.one_mul]
    rw [this, e2, Nat.mul_add]
    omega
/-- The first terms of (a+1)^n. -/
def S (n a : Nat) : Nat → Nat
  | 0 => 0
  | m + 1 => S n a m + C n m * a ^ m
theorem S_step (n a : Nat) : ∀ m : Nat, S (n + 1) a (m + 1) = S n a (m + 1) + a * S n a m
  | 0 => by simp [S, C_zero]
  | m + 1 => by
    have h := S_step n a m
    show S (n + 1) a (m + 1) + C (n + 1) (m + 1) * a ^ (m + 1) = S n a (m + 1) + C n (m + 1) * a ^ (m + 1) + a * (S n a m + C n m * a ^ m)
    rw [h, C_step, Nat.add_mul, Nat.mul_add a, show a * (C n m * a ^ m) = C n m * a ^ (m + 1) by rw [Nat.pow_succ]; rw [Nat.mul_left_comm, Nat.mul_comm a]]
    omega
theorem S_top (n a : Nat) : S n a (n + 2) = S n a (n + 1) := by
  show S n a (n + 1) + C n (n + 1) * a ^ (n + 1) = _
  rw [C_big n (n + 1) (by omega)]; simp
theorem S_pow (a : Nat) : ∀ n : Nat, S n a (n + 1) = (a + 1) ^ n
  | 0 => by simp [S, C]
  | n + 1 => by
    rw [S_step, S_top, S_pow a n, Nat.pow_succ, Nat.mul_add, Nat.mul_one, Nat.mul_comm a]
    omega
structure Prime (p : Nat) : Prop where
  two : 2 ≤ p
  only : ∀ m, m ∣ p → m = 1 ∨ m = p
theorem Prime.cop {p a : Nat} (h : Prime p) (ha : ¬ p ∣ a) : Nat.Coprime p a := by
  rcases h.only _ (Nat.gcd_dvd_left p a) with e | e
  · exact e
  · exact absurd (e ▸ Nat.gcd_dvd_right p a) ha
theorem Prime.mul {p a b : Nat} (h : Prime p) (hd : p ∣ a * b) : p ∣ a ∨ p ∣ b := by
  by_cases ha : p ∣ a
  · exact .inl ha
  · exact .inr (Nat.Coprime.dvd_of_dvd_mul_left (h.cop ha) hd)
theorem Prime.C {p k : Nat} (h : Prime p) (h0 : 0 < k) (hk : k < p) : p ∣ NT.C p k := by
  obtain ⟨n, rfl⟩ : ∃ n, p = n + 1 := ⟨p - 1, by have := h.two; omega⟩
  obtain ⟨j, rfl⟩ : ∃ j, k = j + 1 := ⟨k - 1, by omega⟩
  have := C_absorb n j
  rcases h.mul (a := j + 1) (b := NT.C (n + 1) (j + 1)) (by rw [this]; exact Nat.dvd_mul_right _ _) with h1 | h1
  · have := Nat.le_of_dvd (by omega) h1; omega
  · exact h1
theorem S_mod {p a : Nat} (h : Prime p) : ∀ m : Nat, m < p → S p a (m + 1) % p = 1 % p
  | 0, _ => by simp [S, C_zero]
  | m + 1, hm => by
    show (S p a (m + 1) + C p (m + 1) * a ^ (m + 1)) % p = _
    obtain ⟨c, hc⟩ := h.C (k := m + 1) (by omega) hm
    rw [hc, Nat.mul_assoc, Nat.add_mul_mod_self_left]
    exact S_mod h m (by omega)
theorem fermat {p : Nat} (h : Prime p) : ∀ a : Nat, a ^ p % p = a % p
  | 0 => by have := h.two; rw [Nat.zero_pow (by omega)]
  | a + 1 => by
    rw [← S_pow]
    obtain ⟨n, rfl⟩ : ∃ n, p = n + 1 := ⟨p - 1, by have := h.two; omega⟩
    show (S (n + 1) a (n + 1) + C (n + 1) (n + 1) * a ^ (n + 1)) % (n + 1) = _
    rw [C_self, Nat.one_mul, Nat.add_mod, S_mod h n (by omega), fermat h a, ← Nat.add_mod, Nat.add_comm]
theorem fermat1 {p a : Nat} (h : Prime p) (ha : ¬ p ∣ a) : a ^ (p - 1) % p = 1 := by
  have h2 := h.two
  have hf := fermat h a
  have e : a ^ p = a * a ^ (p - 1) := by
    rw [← Nat.pow_succ']; congr 1; omega
  have ha0 : 0 < a := Nat.pos_of_ne_zero (fun h0 => ha (h0 ▸ Nat.dvd_zero p))
  have ha1 : 1 ≤ a ^ (p - 1) := Nat.pow_pos ha0
  have hd : p ∣ a * (a ^ (p - 1) - 1) := by
    rw [Nat.mul_sub, Nat.mul_one, ← e]
    have hle : a ≤ a ^ p := by rw [e]; exact Nat.le_mul_of_pos_right _ ha1
    refine ⟨a ^ p / p - a / p, ?_⟩
    rw [Nat.mul_sub]
    have d1 := Nat.div_add_mod (a ^ p) p
    have d2 := Nat.div_add_mod a p
    omega
  rcases h.mul hd with h1 | h1
  · exact absurd h1 ha
  · obtain ⟨c, hc⟩ := h1
    have : a ^ (p - 1) = 1 + p * c := by omega
    rw [this, Nat.add_mul_mod_self_left, Nat.mod_eq_of_lt (by omega)]
end NT
namespace NT
theorem pow_mod' (a n d : Nat) : a ^ n % d = (a % d) ^ n % d := Nat.pow_mod a n d
theorem least_dvd {n : Nat} (hn : 2 ≤ n) : ∃ d, Prime d ∧ d ∣ n ∧ (d = n ∨ d * d ≤ n) := by
  have key : ∀ k : Nat, ∀ d, d ≤ k → 2 ≤ d → d ∣ n → ∃ d', 2 ≤ d' ∧ d' ∣ n ∧ ∀ m, 2 ≤ m → m ∣ n → d' ≤ m := by
    intro k
    induction k with
    | zero => intro d h1 h2; omega
    | succ k ih =>
      intro d h1 h2 h3
      by_cases h : ∃ m, 2 ≤ m ∧ m ∣ n ∧ m < d
      · obtain ⟨m, m1, m2, m3⟩ := h
        exact ih m (by omega) m1 m2
      · exact ⟨d, h2, h3, fun m m1 m2 => Nat.le_of_not_lt (fun h4 => h ⟨m, m1, m2, h4⟩)⟩
  obtain ⟨d, h1, h2, h3⟩ := key n n (Nat.le_refl n) hn (Nat.dvd_refl n)
  refine ⟨d, ⟨h1, fun m hm => ?_⟩, h2, ?_⟩
  · have hm0 : 0 < m := Nat.pos_of_dvd_of_pos hm (by omega)
    have hmd := Nat.le_of_dvd (by omega) hm
    by_cases h : m = 1
    · exact .inl h
    · exact .inr (by have := h3 m (by omega) (Nat.dvd_trans hm h2); omega)
  · obtain ⟨e, rfl⟩ := h2
    by_cases he : e ≤ 1
    · left
      have : e = 1 := by
        rcases Nat.eq_zero_or_pos e with h | h
        · subst h; omega
        · omega
      rw [this, Nat.mul_one]
    · right
      exact Nat.mul_le_mul_left _ (h3 e (by omega) (Nat.dvd_mul_left _ _))
theorem E_gcd (b d : Nat) : ∀ m n : Nat, b ^ m % d = 1 % d → b ^ n % d = 1 % d → b ^ (Nat.gcd m n) % d = 1 % d := by
  intro m n
  induction m, n using Nat.gcd.induction with
  | H0 n => intro _ h; rwa [Nat.gcd_zero_left]
  | H1 m n hm ih =>
    intro h1 h2
    rw [Nat.gcd_rec]
    refine ih ?_ h1
    rw [← Nat.div_add_mod n m, Nat.pow_add, Nat.pow_mul, Nat.mul_mod, Nat.pow_mod, h1, ← Nat.pow_mod, Nat.one_pow, ← Nat.mul_mod, Nat.one_mul] at h2
    exact h2
theorem order_dvd {d q b : Nat} (hd : Prime d) (hq : Prime q) (h1 : b ^ q % d = 1) (h2 : b % d ≠ 1) : q ∣ d - 1 := by
  have d2 := hd.two
  have e1 : 1 % d = 1 := Nat.mod_eq_of_lt (by omega)
  have hb : ¬ d ∣ b := fun h => by
    have : d ∣ b ^ q := Nat.dvd_trans h ⟨b ^ (q - 1), by rw [← Nat.pow_succ']; congr 1; have := hq.two; omega⟩
    rw [Nat.mod_eq_zero_of_dvd this] at h1
    omega
  have h3 := E_gcd b d q (d - 1) (by rw [h1, e1]) (by rw [fermat1 hd hb, e1])
  rcases hq.only _ (Nat.gcd_dvd_left q (d - 1)) with h | h
  · rw [h, Nat.pow_one, e1] at h3; exact absurd h3 h2
  · exact h ▸ Nat.gcd_dvd_right q (d - 1)
/-- A power, modulo n. -/
def pm (n : Nat) : Nat → Nat → Nat → Nat
  | 0, _, _ => 1 % n
  | f + 1, a, e => if e = 0 then 1 % n else if e % 2 = 1 then a * pm n f (a * a % n) (e / 2) % n else pm n f (a * a % n) (e / 2)
theorem pm_eq (n : Nat) : ∀ f a e : Nat, e < 2 ^ f → pm n f a e = a ^ e % n
  | 0, a, e, h => by
    have : e = 0 := by simpa using h
    subst this; rfl
  | f + 1, a, e, h => by
    unfold pm
    by_cases h0 : e = 0
    · rw [if_pos h0, h0, Nat.pow_zero]
    · have hp : (2 : Nat) ^ (f + 1) = 2 ^ f * 2 := rfl
      have he : e / 2 < 2 ^ f := by omega
      have hs : (a * a % n) ^ (e / 2) % n = a ^ (2 * (e / 2)) % n := by
        rw [← Nat.pow_mod, Nat.pow_mul, Nat.pow_two]
      rw [if_neg h0, pm_eq n f _ _ he, hs]
      by_cases h1 : e % 2 = 1
      · rw [if_pos h1, Nat.mul_mod, Nat.mod_mod, ← Nat.mul_mod, ← Nat.pow_succ']
        congr 2; omega
      · rw [if_neg h1]
        congr 2; omega
/-- The certificate of one prime part. -/
def ok1 (n q a : Nat) : Bool := (n - 1) % q == 0 && (pm n 256 a (n - 1) == 1 && Nat.gcd (pm n 256 a ((n - 1) / q) + n - 1) n == 1)
theorem part {n q a d : Nat} (hn : 2 ≤ n) (hs : n < 2 ^ 256) (hq : Prime q) (hok : ok1 n q a = true) (hd : Prime d) (hdn : d ∣ n) : q ∣ d - 1 := by
  unfold ok1 at hok
  simp only [Bool.and_eq_true, beq_iff_eq] at hok
  obtain ⟨h0, h1, h2⟩ := hok
  have hle : (n - 1) / q ≤ n - 1 := Nat.div_le_self _ _
  rw [pm_eq n 256 a (n - 1) (by omega)] at h1
  rw [pm_eq n 256 a ((n - 1) / q) (by omega)] at h2
  have d2 := hd.two
  have hqR : (n - 1) / q * q = n - 1 := by
    have := Nat.div_add_mod (n - 1) q
    rw [h0, Nat.add_zero, Nat.mul_comm] at this
    exact this
  refine order_dvd (b := a ^ ((n - 1) / q)) hd hq ?_ ?_
  · rw [← Nat.pow_mul, hqR, ← Nat.mod_mod_of_dvd _ hdn, h1, Nat.mod_eq_of_lt (by omega)]
  · intro h3
    rw [← Nat.mod_mod_of_dvd _ hdn] at h3
    generalize a ^ ((n - 1) / q) % n = x at h2 h3
    have h4 : d ∣ x + n - 1 := by
      have e := Nat.div_add_mod x d
      obtain ⟨c, hc⟩ := hdn
      refine ⟨x / d + c, ?_⟩
      rw [Nat.mul_add, ← hc]
      omega
    have h5 := Nat.dvd_gcd h4 hdn
    rw [h2] at h5
    have := Nat.le_of_dvd (by omega) h5
    omega
theorem pock1 {n q a : Nat} (hn : 2 ≤ n) (hs : n < 2 ^ 256) (hq : Prime q) (hok : ok1 n q a = true) (hbig : n < (q + 1) * (q + 1)) : Prime n := by
  obtain ⟨d, hd, hdn, h⟩ := least_dvd hn
  rcases h with rfl | h
  · exact hd
  · have := part hn hs hq hok hd hdn
    have d2 := hd.two
    have h1 := Nat.le_of_dvd (by omega) this
    have := Nat.mul_le_mul (show q + 1 ≤ d by omega) (show q + 1 ≤ d by omega)
    omega
theorem pock2 {n q r a b : Nat} (hn : 2 ≤ n) (hs : n < 2 ^ 256) (hq : Prime q) (hr : Prime r) (hne : q ≠ r) (hok : ok1 n q a = true) (hok2 : ok1 n r b = true) (hbig : n < (q * r + 1) * (q * r + 1)) : Prime n := by
  obtain ⟨d, hd, hdn, h⟩ := least_dvd hn
  rcases h with rfl | h
  · exact hd
  · have h1 := part hn hs hq hok hd hdn
    have h2 := part hn hs hr hok2 hd hdn
    have d2 := hd.two
    have hc : Nat.Coprime q r := hq.cop (fun hh => by
      rcases hr.only _ hh with e | e
      · have := hq.two; omega
      · exact hne e)
    have h1 := Nat.le_of_dvd (by omega) (Nat.Coprime.mul_dvd_of_dvd_of_dvd hc h1 h2)
    have := Nat.mul_le_mul (show q * r + 1 ≤ d by omega) (show q * r + 1 ≤ d by omega)
    omega
def noDiv (n : Nat) : Nat → Nat → Bool
  | 0, d => decide (n < d * d)
  | f + 1, d => decide (n % d ≠ 0) && noDiv n f (d + 1)
theorem noDiv_spec (n : Nat) : ∀ f d : Nat, noDiv n f d = true → (∀ m, 2 ≤ m → m < d → ¬ m ∣ n) → ∃ D, n < D * D ∧ ∀ m, 2 ≤ m → m < D → ¬ m ∣ n
  | 0, d, h, hm => ⟨d, by simpa [noDiv] using h, hm⟩
  | f + 1, d, h, hm => by
    unfold noDiv at h
    rw [Bool.and_eq_true, decide_eq_true_iff] at h
    refine noDiv_spec n f (d + 1) h.2 (fun m m1 m2 => ?_)
    by_cases e : m = d
    · subst e; exact fun hd => h.1 (Nat.mod_eq_zero_of_dvd hd)
    · exact hm m m1 (by omega)
theorem small {n f : Nat} (hn : 2 ≤ n) (h : noDiv n f 2 = true) : Prime n := by
  obtain ⟨D, h1, h2⟩ := noDiv_spec n f 2 h (fun m m1 m2 => by omega)
  obtain ⟨d, hd, hdn, h⟩ := least_dvd hn
  rcases h with rfl | h
  · exact hd
  · have hlt : d < D := by
      refine Nat.lt_of_not_le (fun hle => ?_)
      have := Nat.mul_le_mul hle hle
      omega
    exact absurd hdn (h2 d hd.two hlt)
theorem p430751 : Prime 430751 := small (f := 660) (by decide) (by decide +kernel)
theorem p4153 : Prime 4153 := small (f := 70) (by decide) (by decide +kernel)
theorem p127 : Prime 127 := small (f := 12) (by decide) (by decide +kernel)
theorem p8574133 : Prime 8574133 := small (f := 3000) (by decide) (by decide +kernel)
theorem q3 : Prime 31757755568855353 := pock2 (q := 430751) (r := 4153) (a := 2) (b := 2) (by decide) (by decide) p430751 p4153 (by decide) (by decide +kernel) (by decide +kernel) (by decide +kernel)
theorem q4 : Prime 1919519569386763 := pock2 (q := 8574133) (r := 127) (a := 2) (b := 2) (by decide) (by decide) p8574133 p127 (by decide) (by decide +kernel) (by decide +kernel) (by decide +kernel)
theorem p13 : Prime 13 := small (f := 3) (by decide) (by decide +kernel)
theorem p569003 : Prime 569003 := small (f := 760) (by decide) (by decide +kernel)
theorem p2437 : Prime 2437 := small (f := 60) (by decide) (by decide +kernel)
theorem p27 : Prime 2773320623 := pock2 (q := 569003) (r := 2437) (a := 2) (b := 2) (by decide) (by decide) p569003 p2437 (by decide) (by decide +kernel) (by decide +kernel) (by decide +kernel)
theorem q5 : Prime 72106336199 := pock1 (q := 2773320623) (a := 2) (by decide) (by decide) p27 (by decide +kernel) (by decide +kernel)
theorem q2 : Prime 75445702479781427272750846543864801 := pock2 (q := 1919519569386763) (r := 72106336199) (a := 2) (b := 2) (by decide) (by decide) q4 q5 (by decide) (by decide +kernel) (by decide +kernel) (by decide +kernel)
theorem q1 : Prime 74058212732561358302231226437062788676166966415465897661863160754340907 := pock2 (q := 75445702479781427272750846543864801) (r := 31757755568855353) (a := 2) (b := 2) (by decide) (by decide +kernel) q2 q3 (by decide) (by decide +kernel) (by decide +kernel) (by decide +kernel)
theorem prime25519 : Prime 57896044618658097711785492504343953926634992332820282019728792003956564819949 := pock1 (q := 74058212732561358302231226437062788676166966415465897661863160754340907) (a := 2) (by decide) (by decide +kernel) q1 (by decide +kernel) (by decide +kernel)
end NT
end Go.Proofs.Ytdmpnogjpgoaaaa

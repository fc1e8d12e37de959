import Derived.Test.YtdmpnogjpgoaaaaLimbM2
namespace Go.Proofs.Ytdmpnogjpgoaaaa
open Go.RowKit Go.Proofs.YtdmpnogjpgoaaaaW.PrintWords Go.Proofs.YtdmpnogjpgoaaaaW.PrintLast Go.Proofs.YtdmpnogjpgoaaaaW.PrintMore
/-! ### differences -/
def sbs : List Nat → List Nat → List Nat → Nat → List Nat × Nat
  | a :: l, p :: q, b :: m, r =>
    let n := a + p + 65536 - b - r
    if n < 65536 then (n :: (sbs l q m 1).1, (sbs l q m 1).2) else ((n - 65536) :: (sbs l q m 0).1, (sbs l q m 0).2)
  | _, _, _, r => ([], r)
theorem sbs_spec : ∀ (l p m : List Nat) (r : Nat), l.length = p.length → m.length = p.length → (∀ d ∈ l, d < 65536) → (∀ d ∈ p, d < 65536) → (∀ d ∈ m, d < 65536) → r ≤ 1 →
    (sbs l p m r).1.length = p.length ∧ (∀ d ∈ (sbs l p m r).1, d < 131072) ∧ (sbs l p m r).2 ≤ 1 ∧ valD (sbs l p m r).1 + valD m + r = valD l + valD p + 65536 ^ p.length * (sbs l p m r).2
  | [], [], [], r, _, _, _, _, _, h => by simp [sbs, valD]; omega
  | [], _ :: _, _, _, h, _, _, _, _, _ => by simp at h
  | _ :: _, [], _, _, h, _, _, _, _, _ => by simp at h
  | _, _ :: _, [], _, _, h, _, _, _, _ => by simp at h
  | _, [], _ :: _, _, _, h, _, _, _, _ => by simp at h
  | a :: l, p :: q, b :: m, r, h1, h2, ha, hp, hb, hr => by
    have a1 := ha a List.mem_cons_self
    have a2 := hp p List.mem_cons_self
    have a3 := hb b List.mem_cons_self
    have ih := fun r hr => sbs_spec l q m r (by simpa using h1) (by simpa using h2) (fun d hd => ha d (List.mem_cons_of_mem _ hd)) (fun d hd => hp d (List.mem_cons_of_mem _ hd)) (fun d hd => hb d (List.mem_cons_of_mem _ hd)) hr
    unfold sbs
    dsimp only
    by_cases hn : a + p + 65536 - b - r < 65536
    · obtain ⟨i1, i2, i3, i4⟩ := ih 1 (by omega)
      rw [if_pos hn]
      refine ⟨by simp [i1], ?_, i3, ?_⟩
      · intro d hd
        rcases List.mem_cons.1 hd with h | h
        · omega
        · exact i2 d h
      · show a + p + 65536 - b - r + 65536 * valD (sbs l q m 1).1 + (b + 65536 * valD m) + r = a + 65536 * valD l + (p + 65536 * valD q) + 65536 ^ (q.length + 1) * (sbs l q m 1).2
        rw [Nat.pow_succ, Nat.mul_comm (65536 ^ q.length) 65536, Nat.mul_assoc]
        generalize 65536 ^ q.length * (sbs l q m 1).2 = X at *
        omega
    · obtain ⟨i1, i2, i3, i4⟩ := ih 0 (by omega)
      rw [if_neg hn]
      refine ⟨by simp [i1], ?_, i3, ?_⟩
      · intro d hd
        rcases List.mem_cons.1 hd with h | h
        · omega
        · exact i2 d h
      · show a + p + 65536 - b - r - 65536 + 65536 * valD (sbs l q m 0).1 + (b + 65536 * valD m) + r = a + 65536 * valD l + (p + 65536 * valD q) + 65536 ^ (q.length + 1) * (sbs l q m 0).2
        rw [Nat.pow_succ, Nat.mul_comm (65536 ^ q.length) 65536, Nat.mul_assoc]
        generalize 65536 ^ q.length * (sbs l q m 0).2 = X at *
        omega
/-- Where no digit is above the prime's, a borrow comes through all of them or not at all. -/
theorem sbs_flat : ∀ (l p m : List Nat) (r : Nat), l.length = p.length → m.length = p.length → (∀ d ∈ l, d < 65536) → (∀ i x y : Nat, p[i]? = some x → m[i]? = some y → y ≤ x ∧ x < 65536) → r ≤ 1 → (sbs l p m r).2 = 1 → r = 1 ∧ m = p
  | [], [], [], r, _, _, _, _, _, h => by simp [sbs] at h; exact ⟨h, rfl⟩
  | [], _ :: _, _, _, h, _, _, _, _, _ => by simp at h
  | _ :: _, [], _, _, h, _, _, _, _, _ => by simp at h
  | _, _ :: _, [], _, _, h, _, _, _, _ => by simp at h
  | _, [], _ :: _, _, _, h, _, _, _, _ => by simp at h
  | a :: l, p :: q, b :: m, r, h1, h2, ha, hp, hr, h => by
    have a2 := hp 0 p b rfl rfl
    have ih := fun (r : Nat) hr hh => sbs_flat l q m r (by simpa using h1) (by simpa using h2) (fun d hd => ha d (List.mem_cons_of_mem _ hd)) (fun i x y hx hy => hp (i + 1) x y (by simpa using hx) (by simpa using hy)) hr hh
    unfold sbs at h
    dsimp only at h
    by_cases hn : a + p + 65536 - b - r < 65536
    · rw [if_pos hn] at h
      obtain ⟨_, i2⟩ := ih 1 (by omega) h
      exact ⟨by omega, by rw [i2]; congr 1; omega⟩
    · rw [if_neg hn] at h
      obtain ⟨i1, _⟩ := ih 0 (by omega) h
      cases i1
theorem sbs_noborrow (l m : List Nat) (hl : l.length = 16) (hm : m.length = 16) (hdl : ∀ d ∈ l, d < 65536) (hdm : ∀ d ∈ m, d < 65536) (hP : valD m < P25) : (sbs l primeD m 0).2 = 0 := by
  obtain ⟨_, _, h3, _⟩ := sbs_spec l primeD m 0 hl hm hdl prime_lt hdm (by omega)
  refine Nat.eq_zero_of_not_pos (fun hp => ?_)
  have h1 : (sbs l primeD m 0).2 = 1 := by omega
  match l, m, hl, hm with
  | a :: l, b :: m, hl, hm =>
    have hb := hdm b List.mem_cons_self
    have hlm : m.length = 15 := by simpa using hm
    have htop : ∀ y : Nat, m[14]? = some y → y ≤ 32767 := by
      intro y hy
      refine Nat.le_of_not_lt (fun hlt => ?_)
      have t := take_val hy
      rw [List.take_of_length_le (by omega)] at t
      have v : valD (b :: m) = b + 65536 * valD m := rfl
      have := Nat.mul_le_mul_left (65536 ^ 14) (show 32768 ≤ y from hlt)
      have e : 65536 * (65536 ^ 14 * 32768) = P25 + 19 := by decide +kernel
      omega
    have hle : ∀ i x y : Nat, (primeD.drop 1)[i]? = some x → m[i]? = some y → y ≤ x ∧ x < 65536 := by
      intro i x y hx hy
      have hil : i < m.length := (List.getElem?_eq_some_iff.1 hy).1
      have hy2 := hdm y (List.mem_cons_of_mem _ (List.mem_of_getElem? hy))
      by_cases h14 : i = 14
      · subst h14
        have : x = 32767 := by simpa [primeD] using hx.symm
        have := htop y hy
        omega
      · have : x = 65535 := by
          have : ∀ j, j < 14 → (primeD.drop 1)[j]? = some 65535 := by decide
          rw [this i (by omega)] at hx; injection hx with hx; exact hx.symm
        omega
    have hpl : primeD = 65517 :: primeD.drop 1 := rfl
    rw [hpl] at h1
    have F := fun (r : Nat) hr hh => sbs_flat l (primeD.drop 1) m r (show l.length = 15 by simpa using hl) (show m.length = 15 from hlm) (fun d hd => hdl d (List.mem_cons_of_mem _ hd)) hle hr hh
    unfold sbs at h1
    dsimp only at h1
    by_cases hn : a + 65517 + 65536 - b - 0 < 65536
    · rw [if_pos hn] at h1
      obtain ⟨_, e⟩ := F 1 (by omega) h1
      have v : valD (b :: m) = b + 65536 * valD m := rfl
      have v2 : valD primeD = 65517 + 65536 * valD (primeD.drop 1) := rfl
      rw [valD_prime] at v2
      have v3 : valD m = valD (primeD.drop 1) := by rw [e]
      have := hdl a List.mem_cons_self
      omega
    · rw [if_neg hn] at h1
      obtain ⟨e, _⟩ := F 0 (by omega) h1
      cases e
theorem sbs_get {l p m : List Nat} {r i a x b : Nat} (h1 : l[i]? = some a) (h2 : p[i]? = some x) (h3 : m[i]? = some b) : (sbs (l.drop i) (p.drop i) (m.drop i) r) =
    if a + x + 65536 - b - r < 65536 then ((a + x + 65536 - b - r) :: (sbs (l.drop (i + 1)) (p.drop (i + 1)) (m.drop (i + 1)) 1).1, (sbs (l.drop (i + 1)) (p.drop (i + 1)) (m.drop (i + 1)) 1).2)
    else ((a + x + 65536 - b - r - 65536) :: (sbs (l.drop (i + 1)) (p.drop (i + 1)) (m.drop (i + 1)) 0).1, (sbs (l.drop (i + 1)) (p.drop (i + 1)) (m.drop (i + 1)) 0).2) := by
  obtain ⟨k1, rfl⟩ := List.getElem?_eq_some_iff.1 h1
  obtain ⟨k2, rfl⟩ := List.getElem?_eq_some_iff.1 h2
  obtain ⟨k3, rfl⟩ := List.getElem?_eq_some_iff.1 h3
  rw [List.drop_eq_getElem_cons k1, List.drop_eq_getElem_cons k2, List.drop_eq_getElem_cons k3]
  rfl
theorem subS_l (a b : List Nat) (ha : a.length = 16) (hb : b.length = 16) (hda : ∀ d ∈ a, d < 65536) (hdb : ∀ d ∈ b, d < 65536) (hP : valD b < P25) : ∀ (k i r : Nat) (acc : List Nat), i ≤ 16 → 60 - i < k → acc.length ≤ i → r ≤ 1 → acc ++ (sbs (a.drop i) (primeD.drop i) (b.drop i) r).1 = (sbs a primeD b 0).1 →
    PLimbTells.demurralref01_Sub.l0 k (I a) (I b) (I primeD) (I acc) r (16 : Nat) i = some (I (digs 16 ((valD a + P25 - valD b) % P25))) := by
  intro k
  induction k with
  | zero => intro i r acc _ h; omega
  | succ k ih =>
    intro i r acc hi hk hacc hr he
    unfold PLimbTells.demurralref01_Sub.l0
    have hpl : primeD.length = 16 := rfl
    by_cases hlt : i < 16
    · have h1 : i < a.length := by omega
      have h2 : i < b.length := by omega
      have h3 : i < primeD.length := by omega
      have e1 := List.getElem?_eq_getElem h1
      have e2 := List.getElem?_eq_getElem h2
      have e3 := List.getElem?_eq_getElem h3
      have b1 := hda _ (List.getElem_mem h1)
      have b2 := hdb _ (List.getElem_mem h2)
      have b3 := prime_lt _ (List.getElem_mem h3)
      generalize a[i] = x at e1 b1
      generalize b[i] = y at e2 b2
      generalize primeD[i] = z at e3 b3
      have en : wrap64 (wrap64 (wrap64 (wrap64 (rd (I a) (i : Int) + rd (I primeD) (i : Int)) - rd (I b) (i : Int)) - (r : Int)) + 65536) = ((x + z + 65536 - y - r : Nat) : Int) := by
        rw [I_rd e1, I_rd e2, I_rd e3, wr (n := (x : Int) + z) (by omega), wr (n := (x : Int) + z - y) (by omega), wr (n := (x : Int) + z - y - r) (by omega), wr (by omega)]
        omega
      rw [sbs_get e1 e3 e2] at he
      rw [if_pos (by omega), if_pos (by omega), if_pos (by rw [I_len]; omega), if_pos (by rw [I_len]; omega), if_pos (by rw [I_len]; omega), en, wr (n := (i : Int) + 1) (by omega)]
      rw [show ((i : Int) + 1) = ((i + 1 : Nat) : Int) by omega]
      by_cases hn : x + z + 65536 - y - r < 65536
      · rw [if_pos hn] at he
        rw [if_pos (by omega), if_pos (by rw [I_len]; omega), wr (n := ((x + z + 65536 - y - r : Nat) : Int) + 65536) (by omega), wr (by omega)]
        have := ih (i + 1) 1 (acc ++ [x + z + 65536 - y - r]) (by omega) (by omega) (by simp; omega) (by omega) (by rw [List.append_assoc]; exact he)
        rw [I_app] at this
        rw [show ((x + z + 65536 - y - r : Nat) : Int) + 65536 - 65536 = ((x + z + 65536 - y - r : Nat) : Int) by omega]
        exact this
      · rw [if_neg hn] at he
        rw [if_neg (by omega), if_pos (by rw [I_len]; omega), wr (by omega)]
        have := ih (i + 1) 0 (acc ++ [x + z + 65536 - y - r - 65536]) (by omega) (by omega) (by simp; omega) (by omega) (by rw [List.append_assoc]; exact he)
        rw [I_app] at this
        rw [show ((x + z + 65536 - y - r : Nat) : Int) - 65536 = ((x + z + 65536 - y - r - 65536 : Nat) : Int) by omega]
        exact this
    · rw [if_neg (by omega)]
      obtain rfl : i = 16 := by omega
      have ea : a.drop 16 = [] := List.drop_eq_nil_of_le (by omega)
      rw [ea, show ∀ p m r, (sbs [] p m r).1 = [] from fun p m r => by cases p <;> cases m <;> rfl, List.append_nil] at he
      obtain ⟨s1, s2, s3, s4⟩ := sbs_spec a primeD b 0 ha hb hda prime_lt hdb (by omega)
      rw [sbs_noborrow a b ha hb hda hdb hP, valD_prime] at s4
      rw [he, LeftS _ (s1.trans hpl) (fun d hd => by have := s2 d hd; omega) k (by omega), Option.bind_some]
      rw [show valD a + P25 - valD b = valD (sbs a primeD b 0).1 by omega]
theorem subS (u v : Nat) (hu : u < 65536 ^ 16) (hv : v < P25) (k : Nat) (hk : 61 ≤ k) : PLimbTells.demurralref01_Sub.f k (I (digs 16 u)) (I (digs 16 v)) = some (I (digs 16 ((u + P25 - v) % P25))) := by
  unfold PLimbTells.demurralref01_Sub.f
  have hM := M16
  have hv2 : v < 65536 ^ 16 := by omega
  have := subS_l (digs 16 u) (digs 16 v) (digs_len _ _) (digs_len _ _) (digs_lt _ _) (digs_lt _ _) (by rw [valD_digs, Nat.mod_eq_of_lt hv2]; exact hv) k 0 0 [] (by omega) (by omega) (by simp) (by omega) (by simp)
  rw [valD_digs, valD_digs, Nat.mod_eq_of_lt hu, Nat.mod_eq_of_lt hv2] at this
  rw [I_len, digs_len, primeS k (by omega), Option.bind_some]
  exact this
end Go.Proofs.Ytdmpnogjpgoaaaa

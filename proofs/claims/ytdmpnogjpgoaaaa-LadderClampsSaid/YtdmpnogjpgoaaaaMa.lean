import Derived.Test.YtdmpnogjpgoaaaaQLimbTellsx3
namespace Go.Proofs.Ytdmpnogjpgoaaaa
open Go.RowKit Go.Proofs.YtdmpnogjpgoaaaaW.PrintWords Go.Proofs.YtdmpnogjpgoaaaaW.PrintLast Go.Proofs.YtdmpnogjpgoaaaaW.PrintMore
def I (l : List Nat) : List Int := l.map (fun n : Nat => (n : Int))
theorem I_len (l : List Nat) : (I l).length = l.length := by simp [I]
theorem I_app (l m : List Nat) : I (l ++ m) = I l ++ I m := by simp [I]
theorem I_rd {l : List Nat} {i n : Nat} (h : l[i]? = some n) : rd (I l) (i : Int) = (n : Int) := by
  unfold rd I
  simp [List.getD_eq_getElem?_getD, h]
theorem wr {n : Int} (h : -9223372036854775808 ≤ n ∧ n ≤ 9223372036854775807) : wrap64 n = n := by unfold wrap64; omega
theorem tm (a : Nat) : Int.tmod (a : Int) 65536 = ((a % 65536 : Nat) : Int) := rfl
theorem td (a : Nat) : Int.tdiv (a : Int) 65536 = ((a / 65536 : Nat) : Int) := rfl
/-- The value of digits of 16 bits. -/
def valD : List Nat → Nat
  | [] => 0
  | n :: l => n + 65536 * valD l
def car : List Nat → Nat → List Nat × Nat
  | [], o => ([], o)
  | n :: l, o => ((n + o) % 65536 :: (car l ((n + o) / 65536)).1, (car l ((n + o) / 65536)).2)
theorem car_len : ∀ (l : List Nat) (o : Nat), (car l o).1.length = l.length
  | [], _ => rfl
  | n :: l, o => by show (car l _).1.length + 1 = _; rw [car_len l]; rfl
theorem car_val : ∀ (l : List Nat) (o : Nat), valD (car l o).1 + 65536 ^ l.length * (car l o).2 = valD l + o
  | [], o => by simp [car, valD]
  | n :: l, o => by
    have h := car_val l ((n + o) / 65536)
    show (n + o) % 65536 + 65536 * valD (car l ((n + o) / 65536)).1 + 65536 ^ (l.length + 1) * (car l ((n + o) / 65536)).2 = n + 65536 * valD l + o
    rw [Nat.pow_succ, Nat.mul_comm (65536 ^ l.length) 65536, Nat.mul_assoc]
    generalize 65536 ^ l.length * (car l ((n + o) / 65536)).2 = X at *
    omega
theorem car_lt : ∀ (l : List Nat) (o : Nat), ∀ d ∈ (car l o).1, d < 65536
  | [], _, d, h => by simp [car] at h
  | n :: l, o, d, h => by
    rcases List.mem_cons.1 h with h | h
    · subst h; exact Nat.mod_lt _ (by decide)
    · exact car_lt l _ d h
theorem carryS_l (l : List Nat) (hl : l.length ≤ 1000) (hb : ∀ d ∈ l, d < 4611686018427387904) : ∀ (k i o : Nat) (acc : List Nat), i ≤ l.length → l.length - i < k → acc.length ≤ i → o < 4611686018427387904 →
    PLimbTells.demurralref01_carry.l0 k (I acc) o (I l) l.length i = some (I (acc ++ (car (l.drop i) o).1), ((car (l.drop i) o).2 : Int)) := by
  intro k
  induction k with
  | zero => intro i o acc _ h; omega
  | succ k ih =>
    intro i o acc hi hk ha ho
    unfold PLimbTells.demurralref01_carry.l0
    by_cases hlt : i < l.length
    · have hp := List.getElem?_eq_getElem hlt
      rw [List.drop_eq_getElem_cons hlt]
      have hb1 := hb _ (List.getElem_mem hlt)
      generalize l[i] = n at hp hb1
      have e1 : wrap64 (rd (I l) (i : Int) + (o : Int)) = ((n + o : Nat) : Int) := by rw [I_rd hp, wr (by omega)]; omega
      rw [if_pos (by omega), if_pos (by omega), if_pos (by rw [I_len]; omega), if_pos (by rw [I_len]; omega), e1, tm, td, wr (n := (i : Int) + 1) (by omega), wr (by omega)]
      have := ih (i + 1) ((n + o) / 65536) (acc ++ [(n + o) % 65536]) (by omega) (by omega) (by simp; omega) (by omega)
      rw [I_app] at this
      rw [show ((i : Int) + 1) = ((i + 1 : Nat) : Int) by omega]
      rw [show [(((n + o) % 65536 : Nat) : Int)] = I [(n + o) % 65536] from rfl, this]
      simp only [car, I_app, List.append_assoc, List.singleton_append]
    · rw [if_neg (by omega), List.drop_eq_nil_of_le (by omega)]
      simp [car]
theorem carryS (l : List Nat) (hl : l.length ≤ 1000) (hb : ∀ d ∈ l, d < 4611686018427387904) (k : Nat) (hk : l.length < k) :
    PLimbTells.demurralref01_carry.f k (I l) = some (I (car l 0).1, ((car l 0).2 : Int)) := by
  unfold PLimbTells.demurralref01_carry.f
  rw [I_len]
  exact carryS_l l hl hb k 0 0 [] (by omega) (by omega) (by simp) (by omega)
theorem valD_lt : ∀ (l : List Nat), (∀ d ∈ l, d < 65536) → valD l < 65536 ^ l.length
  | [], _ => by simp [valD]
  | n :: l, h => by
    have h1 := valD_lt l (fun d hd => h d (List.mem_cons_of_mem _ hd))
    have h2 := h n List.mem_cons_self
    show n + 65536 * valD l < 65536 ^ (l.length + 1)
    rw [Nat.pow_succ]; omega
def digs : Nat → Nat → List Nat
  | 0, _ => []
  | n + 1, v => v % 65536 :: digs n (v / 65536)
theorem digs_len : ∀ n v : Nat, (digs n v).length = n
  | 0, _ => rfl
  | n + 1, v => by show (digs n _).length + 1 = _; rw [digs_len]
theorem digs_lt : ∀ (n v : Nat), ∀ d ∈ digs n v, d < 65536
  | 0, _, d, h => by simp [digs] at h
  | n + 1, v, d, h => by
    rcases List.mem_cons.1 h with h | h
    · subst h; exact Nat.mod_lt _ (by decide)
    · exact digs_lt n _ d h
theorem valD_digs : ∀ n v : Nat, valD (digs n v) = v % 65536 ^ n
  | 0, v => by simp [digs, valD, Nat.mod_one]
  | n + 1, v => by
    show v % 65536 + 65536 * valD (digs n (v / 65536)) = _
    rw [valD_digs n, Nat.pow_succ, Nat.mul_comm (65536 ^ n), Nat.mod_mul]
theorem digs_valD : ∀ (l : List Nat), (∀ d ∈ l, d < 65536) → digs l.length (valD l) = l
  | [], _ => rfl
  | n :: l, h => by
    have h2 := h n List.mem_cons_self
    show (n + 65536 * valD l) % 65536 :: digs l.length ((n + 65536 * valD l) / 65536) = n :: l
    rw [show (n + 65536 * valD l) % 65536 = n by omega, show (n + 65536 * valD l) / 65536 = valD l by omega, digs_valD l (fun d hd => h d (List.mem_cons_of_mem _ hd))]
theorem car_over : ∀ (l : List Nat) (o : Nat), (∀ d ∈ l, d < 72057594037927936) → o < 2199023255552 → (car l o).2 < 2199023255552
  | [], _, _, h => h
  | n :: l, o, h, ho => by
    have h2 := h n List.mem_cons_self
    exact car_over l _ (fun d hd => h d (List.mem_cons_of_mem _ hd)) (by omega)
theorem liftO {α : Type} {F : Nat → Option α} (hm : ∀ k, LeO (F k) (F (k + 1))) {r : α} {k : Nat} (h : F k = some r) : ∀ j, F (k + j) = some r
  | 0 => h
  | j + 1 => hm (k + j) r (liftO hm h j)
def primeD : List Nat := [65517, 65535, 65535, 65535, 65535, 65535, 65535, 65535, 65535, 65535, 65535, 65535, 65535, 65535, 65535, 32767]
def P25 : Nat := 57896044618658097711785492504343953926634992332820282019728792003956564819949
theorem valD_prime : valD primeD = P25 := by decide +kernel
theorem primeS (k : Nat) (hk : 16 ≤ k) : PLimbTells.demurralref01_prime.f k = some (I primeD) := by
  obtain ⟨j, rfl⟩ := Nat.exists_eq_add_of_le hk
  exact liftO (fun k => PLimbTells.demurralref01_prime.mono k) (show PLimbTells.demurralref01_prime.f 16 = some (I primeD) by decide +kernel) j
theorem take_val {l : List Nat} {i n : Nat} (h : l[i]? = some n) : valD (l.take (i + 1)) = valD (l.take i) + 65536 ^ i * n := by
  induction l generalizing i with
  | nil => simp at h
  | cons a l ih =>
    cases i with
    | zero =>
      simp at h; subst h
      simp [valD]
    | succ i =>
      have := ih (i := i) (by simpa using h)
      show a + 65536 * valD (l.take (i + 1)) = a + 65536 * valD (l.take i) + 65536 ^ (i + 1) * n
      rw [this, Nat.pow_succ, Nat.mul_comm (65536 ^ i) 65536, Nat.mul_assoc]; omega
theorem take_lt {l : List Nat} (hl : ∀ d ∈ l, d < 65536) (i : Nat) (hi : i ≤ l.length) : valD (l.take i) < 65536 ^ i := by
  have := valD_lt (l.take i) (fun d hd => hl d (List.mem_of_mem_take hd))
  rwa [List.length_take, Nat.min_eq_left hi] at this
theorem leastS_l (l p : List Nat) (hl : l.length = 16) (hp : p.length = 16) (hdl : ∀ d ∈ l, d < 65536) (hdp : ∀ d ∈ p, d < 65536) : ∀ (k i : Nat), i ≤ 16 → i < k →
    PLimbTells.demurralref01_least.l0 k (I l) (I p) ((i : Int) - 1) = some (decide (valD (p.take i) ≤ valD (l.take i))) := by
  intro k
  induction k with
  | zero => intro i _ h; omega
  | succ k ih =>
    intro i hi hk
    unfold PLimbTells.demurralref01_least.l0
    cases i with
    | zero => rw [if_neg (by omega)]; simp
    | succ i =>
      have h1 : i < l.length := by omega
      have h2 : i < p.length := by omega
      have e1 := List.getElem?_eq_getElem h1
      have e2 := List.getElem?_eq_getElem h2
      have b1 := take_lt hdl i (by omega)
      have b2 := take_lt hdp i (by omega)
      generalize l[i] = n at e1
      generalize p[i] = q at e2
      have ei : ((i + 1 : Nat) : Int) - 1 = (i : Int) := by omega
      rw [ei, if_pos (by omega), if_pos (by omega), if_pos (by rw [I_len]; omega), if_pos (by rw [I_len]; omega), I_rd e1, I_rd e2, wr (n := (i : Int) - 1) (by omega), ih i (by omega) (by omega), take_val e1, take_val e2]
      by_cases h : n = q
      · subst h
        rw [if_pos rfl]
        congr 1
        exact decide_eq_decide.2 (by omega)
      · rw [if_neg (by omega)]
        congr 1
        refine decide_eq_decide.2 ?_
        by_cases hlt : q < n
        · have := Nat.mul_le_mul_left (65536 ^ i) (show q + 1 ≤ n from hlt)
          rw [Nat.mul_add, Nat.mul_one] at this
          generalize 65536 ^ i * n = X at *
          generalize 65536 ^ i * q = Y at *
          omega
        · have := Nat.mul_le_mul_left (65536 ^ i) (show n + 1 ≤ q by omega)
          rw [Nat.mul_add, Nat.mul_one] at this
          generalize 65536 ^ i * n = X at *
          generalize 65536 ^ i * q = Y at *
          omega
theorem prime_lt : ∀ d ∈ primeD, d < 65536 := by decide
theorem leastS (l : List Nat) (hl : l.length = 16) (hdl : ∀ d ∈ l, d < 65536) (k : Nat) (hk : 17 ≤ k) : PLimbTells.demurralref01_least.f k (I l) = some (decide (P25 ≤ valD l)) := by
  unfold PLimbTells.demurralref01_least.f
  rw [primeS k (by omega), Option.bind_some]
  have := leastS_l l primeD hl rfl hdl prime_lt k 16 (by omega) (by omega)
  rw [List.take_of_length_le (l := primeD) (by decide), List.take_of_length_le (l := l) (by omega), valD_prime] at this
  exact this
def les : List Nat → List Nat → Nat → List Nat × Nat
  | a :: l, p :: q, b => ((a + 65536 - p - b) % 65536 :: (les l q (1 - (a + 65536 - p - b) / 65536)).1, (les l q (1 - (a + 65536 - p - b) / 65536)).2)
  | _, _, b => ([], b)
theorem les_len : ∀ (l p : List Nat) (b : Nat), l.length = p.length → (les l p b).1.length = l.length
  | [], [], _, _ => rfl
  | a :: l, p :: q, b, h => by show (les l q _).1.length + 1 = _; rw [les_len l q _ (by simpa using h)]; rfl
  | [], _ :: _, _, h => by simp at h
  | _ :: _, [], _, h => by simp at h
theorem les_lt : ∀ (l p : List Nat) (b : Nat), ∀ d ∈ (les l p b).1, d < 65536
  | [], _, _, d, h => by simp [les] at h
  | _ :: _, [], _, d, h => by simp [les] at h
  | a :: l, p :: q, b, d, h => by
    rcases List.mem_cons.1 h with h | h
    · subst h; exact Nat.mod_lt _ (by decide)
    · exact les_lt l q _ d h
theorem les_val : ∀ (l p : List Nat) (b : Nat), l.length = p.length → (∀ d ∈ l, d < 65536) → (∀ d ∈ p, d < 65536) → b ≤ 1 →
    valD (les l p b).1 + valD p + b = valD l + 65536 ^ l.length * (les l p b).2 ∧ (les l p b).2 ≤ 1
  | [], [], b, _, _, _, hb => by simp [les, valD]; omega
  | [], _ :: _, _, h, _, _, _ => by simp at h
  | _ :: _, [], _, h, _, _, _ => by simp at h
  | a :: l, p :: q, b, h, h1, h2, hb => by
    have a1 := h1 a List.mem_cons_self
    have a2 := h2 p List.mem_cons_self
    obtain ⟨ih, ih2⟩ := les_val l q (1 - (a + 65536 - p - b) / 65536) (by simpa using h) (fun d hd => h1 d (List.mem_cons_of_mem _ hd)) (fun d hd => h2 d (List.mem_cons_of_mem _ hd)) (by omega)
    refine ⟨?_, ih2⟩
    show (a + 65536 - p - b) % 65536 + 65536 * valD (les l q (1 - (a + 65536 - p - b) / 65536)).1 + (p + 65536 * valD q) + b = a + 65536 * valD l + 65536 ^ (l.length + 1) * (les l q (1 - (a + 65536 - p - b) / 65536)).2
    rw [Nat.pow_succ, Nat.mul_comm (65536 ^ l.length) 65536, Nat.mul_assoc]
    generalize 65536 ^ l.length * (les l q (1 - (a + 65536 - p - b) / 65536)).2 = X at *
    omega
theorem lessS_l (l p : List Nat) (hl : l.length = 16) (hp : p.length = 16) (hdl : ∀ d ∈ l, d < 65536) (hdp : ∀ d ∈ p, d < 65536) : ∀ (k i b : Nat) (acc : List Nat), i ≤ 16 → 16 - i < k → acc.length ≤ i → b ≤ 1 →
    PLimbTells.demurralref01_less.l0 k (I l) (I p) (I acc) b i = some (I (acc ++ (les (l.drop i) (p.drop i) b).1)) := by
  intro k
  induction k with
  | zero => intro i b acc _ h; omega
  | succ k ih =>
    intro i b acc hi hk ha hb
    unfold PLimbTells.demurralref01_less.l0
    by_cases hlt : i < 16
    · have h1 : i < l.length := by omega
      have h2 : i < p.length := by omega
      have e1 := List.getElem?_eq_getElem h1
      have e2 := List.getElem?_eq_getElem h2
      have b1 := hdl _ (List.getElem_mem h1)
      have b2 := hdp _ (List.getElem_mem h2)
      rw [List.drop_eq_getElem_cons h1, List.drop_eq_getElem_cons h2]
      generalize l[i] = n at e1 b1
      generalize p[i] = q at e2 b2
      have en : wrap64 (wrap64 (wrap64 (rd (I l) (i : Int) - rd (I p) (i : Int)) - (b : Int)) + 65536) = ((n + 65536 - q - b : Nat) : Int) := by
        rw [I_rd e1, I_rd e2, wr (n := (n : Int) - q) (by omega), wr (n := (n : Int) - q - b) (by omega), wr (by omega)]
        omega
      rw [if_pos (by omega), if_pos (by omega), if_pos (by rw [I_len]; omega), if_pos (by rw [I_len]; omega), if_pos (by rw [I_len]; omega), en, tm, td, wr (n := (i : Int) + 1) (by omega), wr (n := (((n + 65536 - q - b) / 65536 : Nat) : Int)) (by omega), wr (by omega)]
      have := ih (i + 1) (1 - (n + 65536 - q - b) / 65536) (acc ++ [(n + 65536 - q - b) % 65536]) (by omega) (by omega) (by simp; omega) (by omega)
      rw [I_app] at this
      rw [show ((i : Int) + 1) = ((i + 1 : Nat) : Int) by omega, show (1 : Int) - (((n + 65536 - q - b) / 65536 : Nat) : Int) = ((1 - (n + 65536 - q - b) / 65536 : Nat) : Int) by omega]
      rw [show [(((n + 65536 - q - b) % 65536 : Nat) : Int)] = I [(n + 65536 - q - b) % 65536] from rfl, this]
      simp only [les, List.append_assoc, List.singleton_append]
    · rw [if_neg (by omega), List.drop_eq_nil_of_le (by omega)]
      simp [les]
theorem lessS (v : Nat) (hv : v < 65536 ^ 16) (hP : P25 ≤ v) (k : Nat) (hk : 17 ≤ k) : PLimbTells.demurralref01_less.f k (I (digs 16 v)) = some (I (digs 16 (v - P25))) := by
  unfold PLimbTells.demurralref01_less.f
  rw [primeS k (by omega), Option.bind_some]
  have := lessS_l (digs 16 v) primeD (digs_len _ _) rfl (digs_lt _ _) prime_lt k 0 0 [] (by omega) (by omega) (by simp) (by omega)
  rw [List.drop_zero, List.drop_zero, List.nil_append] at this
  refine this.trans ?_
  obtain ⟨h1, h2⟩ := les_val (digs 16 v) primeD 0 (digs_len _ _) (digs_lt _ _) prime_lt (by omega)
  have h3 := valD_lt _ (les_lt (digs 16 v) primeD 0)
  have h4 := les_len (digs 16 v) primeD 0 (digs_len _ _)
  rw [h4, digs_len] at h3
  rw [valD_digs, Nat.mod_eq_of_lt hv, digs_len, valD_prime] at h1
  have h5 := digs_valD _ (les_lt (digs 16 v) primeD 0)
  rw [h4, digs_len] at h5
  have hu : valD (les (digs 16 v) primeD 0).1 = v - P25 := by
    generalize (les (digs 16 v) primeD 0).2 = b at *
    generalize valD (les (digs 16 v) primeD 0).1 = u at *
    clear h5
    generalize 65536 ^ 16 = M at *
    generalize P25 = P at *
    rcases Nat.eq_zero_or_pos b with hb | hb
    · subst hb; simp at h1; omega
    · have : b = 1 := by omega
      subst this; simp at h1; omega
  rw [← h5, hu]
theorem M16 : (65536 : Nat) ^ 16 = 2 * P25 + 38 := by decide +kernel
theorem P25_pos : 38 < P25 := by decide +kernel
theorem P25_big : 100000000000000 < P25 := by decide +kernel
theorem Left1S (v : Nat) (hv : v < 65536 ^ 16) (k : Nat) (hk : 21 ≤ k) : PLimbTells.demurralref01_Left.l1 k (I (digs 16 v)) = some (I (digs 16 (v % P25))) := by
  have hM := M16
  have hP := P25_pos
  have step : ∀ (v k : Nat), v < 65536 ^ 16 → 17 ≤ k → PLimbTells.demurralref01_Left.l1 (k + 1) (I (digs 16 v)) = if P25 ≤ v then PLimbTells.demurralref01_Left.l1 k (I (digs 16 (v - P25))) else some (I (digs 16 v)) := by
    intro v k hv hk
    show (PLimbTells.demurralref01_least.f k (I (digs 16 v))).bind _ = _
    rw [leastS (digs 16 v) (digs_len _ _) (digs_lt _ _) k hk, Option.bind_some, valD_digs, Nat.mod_eq_of_lt hv]
    by_cases h : P25 ≤ v
    · rw [if_pos h, if_pos (decide_eq_true h), lessS v hv h k hk, Option.bind_some]
    · rw [if_neg h, if_neg (by rw [decide_eq_false h]; decide)]
  obtain ⟨j, rfl⟩ : ∃ j, k = j + 1 + 1 + 1 := ⟨k - 3, by omega⟩
  rw [step v (j + 1 + 1) hv (by omega)]
  by_cases h1 : P25 ≤ v
  · rw [if_pos h1, step (v - P25) (j + 1) (by omega) (by omega), Nat.mod_eq_sub_mod h1]
    by_cases h2 : P25 ≤ v - P25
    · rw [if_pos h2, step (v - P25 - P25) j (by omega) (by omega), Nat.mod_eq_sub_mod h2, if_neg (by omega), Nat.mod_eq_of_lt (by omega)]
    · rw [if_neg h2, Nat.mod_eq_of_lt (by omega)]
  · rw [if_neg h1, Nat.mod_eq_of_lt (by omega)]
theorem set0 (n : Nat) (l : List Nat) (m : Nat) : (I (n :: l)).set (0 : Int).toNat (m : Int) = I (m :: l) := rfl
theorem Left0S (v o : Nat) (hv : v < 65536 ^ 16) (ho : o < 2199023255552) (k : Nat) (hk : 40 ≤ k) : PLimbTells.demurralref01_Left.l0 k (I (digs 16 v)) o = some (I (digs 16 ((v + 65536 ^ 16 * o) % P25))) := by
  have hM := M16
  have hP := P25_pos
  have step : ∀ (v o k : Nat), v < 65536 ^ 16 → o < 2199023255552 → 30 ≤ k → 0 < o → ∃ v' o' : Nat, v' < 65536 ^ 16 ∧ o' < 2199023255552 ∧ v' + 65536 ^ 16 * o' = v + 38 * o ∧ PLimbTells.demurralref01_Left.l0 (k + 1) (I (digs 16 v)) o = PLimbTells.demurralref01_Left.l0 k (I (digs 16 v')) o' := by
    intro v o k hv ho hk hp
    have hlen := digs_len 16 v
    have hlt := digs_lt 16 v
    have hval := valD_digs 16 v
    rw [Nat.mod_eq_of_lt hv] at hval
    generalize digs 16 v = ds at *
    match ds, hlen with
    | d :: l, hlen =>
      have hd := hlt d List.mem_cons_self
      have hb : ∀ x ∈ (d + 38 * o) :: l, x < 72057594037927936 := fun x hx => by
        rcases List.mem_cons.1 hx with h | h
        · omega
        · have := hlt x (List.mem_cons_of_mem _ h); omega
      have hl2 : ((d + 38 * o) :: l).length = 16 := by simpa using hlen
      have c1 := car_len ((d + 38 * o) :: l) 0
      have c2 := car_val ((d + 38 * o) :: l) 0
      have c3 := car_lt ((d + 38 * o) :: l) 0
      have c4 := car_over ((d + 38 * o) :: l) 0 hb (by omega)
      have c5 := carryS ((d + 38 * o) :: l) (by omega) (fun x hx => by have := hb x hx; omega) k (by omega)
      have e1 : wrap64 (rd (I (d :: l)) 0 + wrap64 (38 * (o : Int))) = ((d + 38 * o : Nat) : Int) := by
        rw [show rd (I (d :: l)) 0 = (d : Int) from rfl, wr (n := 38 * (o : Int)) (by omega), wr (by omega)]; omega
      have c6 := digs_valD _ c3
      have c7 := valD_lt _ c3
      rw [c1, hl2] at c6 c7
      rw [hl2] at c2
      refine ⟨valD (car ((d + 38 * o) :: l) 0).1, (car ((d + 38 * o) :: l) 0).2, c7, c4, ?_, ?_⟩
      · have : valD ((d + 38 * o) :: l) = valD (d :: l) + 38 * o := by show d + 38 * o + 65536 * valD l = d + 65536 * valD l + 38 * o; omega
        rw [c2, this, hval]; omega
      · rw [c6]
        show (if (o : Int) > 0 then _ else _) = _
        rw [if_pos (by omega), if_pos (by rw [I_len]; omega), e1, set0, c5, Option.bind_some]
  have done : ∀ (v k : Nat), v < 65536 ^ 16 → 30 ≤ k → PLimbTells.demurralref01_Left.l0 k (I (digs 16 v)) (0 : Nat) = some (I (digs 16 (v % P25))) := by
    intro v k hv hk
    obtain ⟨j, rfl⟩ : ∃ j, k = j + 1 := ⟨k - 1, by omega⟩
    show (if ((0 : Nat) : Int) > 0 then _ else _) = _
    rw [if_neg (by omega)]
    exact Left1S v hv j (by omega)
  have modc : ∀ v o : Nat, (v + 65536 ^ 16 * o) % P25 = (v + 38 * o) % P25 := by
    intro v o
    rw [hM, Nat.add_mul, Nat.mul_comm 2 P25, Nat.mul_assoc, Nat.add_comm (P25 * (2 * o)), ← Nat.add_assoc, Nat.add_mul_mod_self_left]
  obtain ⟨j, rfl⟩ : ∃ j, k = j + 1 + 1 + 1 := ⟨k - 3, by omega⟩
  rcases Nat.eq_zero_or_pos o with h0 | h0
  · subst h0
    rw [done v _ hv (by omega)]; simp
  · have hbig := P25_big
    obtain ⟨v1, o1, a1, a2, a3, a4⟩ := step v o (j + 1 + 1) hv ho (by omega) h0
    have b1 : o1 ≤ 1 := by
      generalize 65536 ^ 16 = M at *
      refine Nat.le_of_not_lt (fun h => ?_)
      have := Nat.mul_le_mul_left M (show 2 ≤ o1 from h)
      have : 38 * o < M := by omega
      omega
    rw [a4, modc v o, ← a3, modc v1 o1]
    rcases Nat.eq_zero_or_pos o1 with h1 | h1
    · subst h1
      rw [done v1 _ a1 (by omega)]; simp
    · obtain rfl : o1 = 1 := by omega
      obtain ⟨v2, o2, c1, c2, c3, c4⟩ := step v1 1 (j + 1) a1 (by omega) (by omega) (by omega)
      have b2 : o2 = 0 := by
        rcases Nat.eq_zero_or_pos o2 with h | h
        · exact h
        · have := Nat.mul_le_mul_left (65536 ^ 16) (show 1 ≤ o2 from h)
          generalize 65536 ^ 16 * o2 = X at *
          omega
      subst b2
      rw [c4, ← c3, done v2 _ c1 (by omega)]; simp
/-- Left leaves the value modulo the prime. -/
theorem LeftS (l : List Nat) (hl : l.length = 16) (hb : ∀ d ∈ l, d < 72057594037927936) (k : Nat) (hk : 40 ≤ k) : PLimbTells.demurralref01_Left.f k (I l) = some (I (digs 16 (valD l % P25))) := by
  unfold PLimbTells.demurralref01_Left.f
  have c2 := car_val l 0
  have c3 := car_lt l 0
  have c6 := digs_valD _ c3
  have c7 := valD_lt _ c3
  rw [car_len, hl] at c6 c7
  rw [hl] at c2
  rw [carryS l (by omega) (fun x hx => by have := hb x hx; omega) k (by omega), Option.bind_some]
  show PLimbTells.demurralref01_Left.l0 k (I (car l 0).1) ((car l 0).2 : Int) = _
  rw [← c6, Left0S _ _ c7 (car_over l 0 hb (by omega)) k hk, c2]; rfl
end Go.Proofs.Ytdmpnogjpgoaaaa

namespace Go.Proofs.Ytdmpnogjpgoaaaa
open Go.RowKit Go.Proofs.YtdmpnogjpgoaaaaW.PrintWords Go.Proofs.YtdmpnogjpgoaaaaW.PrintLast Go.Proofs.YtdmpnogjpgoaaaaW.PrintMore
/-! ### bytes -/
def valB : List Nat → Nat
  | [] => 0
  | n :: l => n + 256 * valB l
def byts : Nat → Nat → List Nat
  | 0, _ => []
  | n + 1, v => v % 256 :: byts n (v / 256)
def bytesOf (s : ByteArray) : List Nat := s.data.toList.map (fun b => b.toNat)
/-- A text's number, the lowest byte first. -/
def leV (s : ByteArray) : Nat := valB (bytesOf s)
/-- A number's text of 32 bytes. -/
def textV (v : Nat) : ByteArray := strOfNums (I (byts 32 v))
theorem bytesOf_len (s : ByteArray) : (bytesOf s).length = s.size := by
  show (List.map _ s.data.toList).length = s.data.size
  rw [List.length_map, Array.length_toList]
theorem bytesOf_lt (s : ByteArray) : ∀ d ∈ bytesOf s, d < 256 := by
  intro d hd
  obtain ⟨b, _, rfl⟩ := List.mem_map.1 hd
  exact UInt8.toNat_lt b
theorem bt_eq (s : ByteArray) (i n : Nat) (h : (bytesOf s)[i]? = some n) : bt s (i : Int) = (n : Int) := by
  unfold bytesOf at h
  rw [List.getElem?_map] at h
  obtain ⟨b, hb, rfl⟩ := Option.map_eq_some_iff.1 h
  obtain ⟨hl, rfl⟩ := List.getElem?_eq_some_iff.1 hb
  have hl' : i < s.size := by rw [Array.length_toList] at hl; exact hl
  unfold bt
  rw [show ((i : Int)).toNat = i from rfl, dif_pos hl']
  rfl
theorem byts_len : ∀ n v : Nat, (byts n v).length = n
  | 0, _ => rfl
  | n + 1, v => by show (byts n _).length + 1 = _; rw [byts_len]
theorem byts_lt : ∀ (n v : Nat), ∀ d ∈ byts n v, d < 256
  | 0, _, d, h => by simp [byts] at h
  | n + 1, v, d, h => by
    rcases List.mem_cons.1 h with h | h
    · subst h; exact Nat.mod_lt _ (by decide)
    · exact byts_lt n _ d h
theorem valB_byts : ∀ n v : Nat, valB (byts n v) = v % 256 ^ n
  | 0, v => by simp [byts, valB, Nat.mod_one]
  | n + 1, v => by
    show v % 256 + 256 * valB (byts n (v / 256)) = _
    rw [valB_byts n, Nat.pow_succ, Nat.mul_comm (256 ^ n), Nat.mod_mul]
theorem byts_valB : ∀ (l : List Nat), (∀ d ∈ l, d < 256) → byts l.length (valB l) = l
  | [], _ => rfl
  | n :: l, h => by
    have h2 := h n List.mem_cons_self
    show (n + 256 * valB l) % 256 :: byts l.length ((n + 256 * valB l) / 256) = n :: l
    rw [show (n + 256 * valB l) % 256 = n by omega, show (n + 256 * valB l) / 256 = valB l by omega, byts_valB l (fun d hd => h d (List.mem_cons_of_mem _ hd))]
theorem valB_lt : ∀ (l : List Nat), (∀ d ∈ l, d < 256) → valB l < 256 ^ l.length
  | [], _ => by simp [valB]
  | n :: l, h => by
    have h1 := valB_lt l (fun d hd => h d (List.mem_cons_of_mem _ hd))
    have h2 := h n List.mem_cons_self
    show n + 256 * valB l < 256 ^ (l.length + 1)
    rw [Nat.pow_succ]; omega
theorem textV_size (v : Nat) : (textV v).size = 32 := by unfold textV; rw [strOfNums_size, I_len, byts_len]
theorem bytesOf_textV (v : Nat) : bytesOf (textV v) = byts 32 v := by
  unfold bytesOf textV
  rw [strOfNums_data]
  unfold I
  rw [List.map_map, List.map_map]
  refine (List.map_congr_left (g := id) (fun n hn => ?_)).trans (List.map_id _)
  have := byts_lt 32 v n hn
  show (UInt8.ofNat ((n : Int)).toNat).toNat = n
  rw [Int.toNat_natCast, UInt8.toNat_ofNat_of_lt' this]
theorem leV_textV (v : Nat) : leV (textV v) = v % 256 ^ 32 := by unfold leV; rw [bytesOf_textV, valB_byts]
theorem leV_lt (s : ByteArray) (h : s.size = 32) : leV s < 256 ^ 32 := by
  have := valB_lt _ (bytesOf_lt s)
  rwa [bytesOf_len, h] at this
/-! ### pairs of bytes are digits -/
def pairs : List Nat → List Nat
  | a :: b :: l => (a + 256 * b) :: pairs l
  | _ => []
def unpair (l : List Nat) : List Nat := l.flatMap fun d => [d % 256, d / 256 % 256]
theorem pairs_byts : ∀ n v : Nat, pairs (byts (2 * n) v) = digs n v
  | 0, _ => rfl
  | n + 1, v => by
    show pairs (v % 256 :: v / 256 % 256 :: byts (2 * n) (v / 256 / 256)) = v % 65536 :: digs n (v / 65536)
    show (v % 256 + 256 * (v / 256 % 256)) :: pairs (byts (2 * n) (v / 256 / 256)) = _
    rw [pairs_byts n, Nat.div_div_eq_div_mul]
    congr 1; omega
theorem unpair_digs : ∀ n v : Nat, unpair (digs n v) = byts (2 * n) v
  | 0, _ => rfl
  | n + 1, v => by
    show [v % 65536 % 256, v % 65536 / 256 % 256] ++ unpair (digs n (v / 65536)) = v % 256 :: v / 256 % 256 :: byts (2 * n) (v / 256 / 256)
    rw [unpair_digs n, Nat.div_div_eq_div_mul, show v % 65536 % 256 = v % 256 by omega, show v % 65536 / 256 % 256 = v / 256 % 256 by omega]; rfl
theorem digs_of_text (s : ByteArray) (h : s.size = 32) : pairs (bytesOf s) = digs 16 (leV s) := by
  have := byts_valB _ (bytesOf_lt s)
  rw [bytesOf_len, h] at this
  rw [← this, pairs_byts 16]; rfl
theorem pairs_drop {l : List Nat} {i a b : Nat} (ha : l[2 * i]? = some a) (hb : l[2 * i + 1]? = some b) : pairs (l.drop (2 * i)) = (a + 256 * b) :: pairs (l.drop (2 * (i + 1))) := by
  obtain ⟨h1, rfl⟩ := List.getElem?_eq_some_iff.1 ha
  obtain ⟨h2, rfl⟩ := List.getElem?_eq_some_iff.1 hb
  rw [List.drop_eq_getElem_cons h1, List.drop_eq_getElem_cons h2]; rfl
theorem digitsS_l (s : ByteArray) (h : s.size = 32) : ∀ (k i : Nat) (acc : List Nat), i ≤ 16 → 16 - i < k → acc.length ≤ i →
    PLimbTells.demurralref01_Digits.l0 k s (I acc) i = some (I (acc ++ pairs ((bytesOf s).drop (2 * i)))) := by
  have hlen := bytesOf_len s
  have hlt := bytesOf_lt s
  intro k
  induction k with
  | zero => intro i acc _ h; omega
  | succ k ih =>
    intro i acc hi hk ha
    unfold PLimbTells.demurralref01_Digits.l0
    by_cases hlt' : i < 16
    · have h1 : 2 * i < (bytesOf s).length := by omega
      have h2 : 2 * i + 1 < (bytesOf s).length := by omega
      have e1 := List.getElem?_eq_getElem h1
      have e2 := List.getElem?_eq_getElem h2
      have b1 := hlt _ (List.getElem_mem h1)
      have b2 := hlt _ (List.getElem_mem h2)
      generalize (bytesOf s)[2 * i] = a at e1 b1
      generalize (bytesOf s)[2 * i + 1] = b at e2 b2
      have w1 : wrap64 (2 * (i : Int)) = ((2 * i : Nat) : Int) := by rw [wr (by omega)]; omega
      have w2 : wrap64 (((2 * i : Nat) : Int) + 1) = ((2 * i + 1 : Nat) : Int) := by rw [wr (by omega)]; omega
      rw [if_pos (by omega), w1, w2, if_pos (by omega), if_pos (by omega), if_pos (by omega), if_pos (by omega), if_pos (by rw [I_len]; omega), bt_eq s _ _ e1, bt_eq s _ _ e2, wr (n := (i : Int) + 1) (by omega)]
      rw [wr (n := (a : Int)) (by omega), wr (n := (b : Int)) (by omega), wr (n := 256 * (b : Int)) (by omega), wr (n := (a : Int) + 256 * b) (by omega)]
      have := ih (i + 1) (acc ++ [a + 256 * b]) (by omega) (by omega) (by simp; omega)
      rw [I_app] at this
      rw [show ((i : Int) + 1) = ((i + 1 : Nat) : Int) by omega, show ((a : Int) + 256 * b) = ((a + 256 * b : Nat) : Int) by omega]
      rw [show [((a + 256 * b : Nat) : Int)] = I [a + 256 * b] from rfl, this, pairs_drop e1 e2]
      simp
    · rw [if_neg (by omega), List.drop_eq_nil_of_le (by omega)]
      simp [pairs]
theorem digitsS (s : ByteArray) (h : s.size = 32) (k : Nat) (hk : 17 ≤ k) : PLimbTells.demurralref01_Digits.f k s = some (I (digs 16 (leV s))) := by
  unfold PLimbTells.demurralref01_Digits.f
  have := digitsS_l s h k 0 [] (by omega) (by omega) (by simp)
  rw [← digs_of_text s h]
  exact this
theorem textS_l (l : List Nat) (hl : l.length ≤ 1000) (hb : ∀ d ∈ l, d < 65536) : ∀ (k i : Nat) (acc : List Nat), i ≤ l.length → l.length - i < k → acc.length ≤ 2 * i →
    PLimbTells.demurralref01_Text.l0 k (I acc) (I l) l.length i = some (strOfNums (I (acc ++ unpair (l.drop i)))) := by
  intro k
  induction k with
  | zero => intro i acc _ h; omega
  | succ k ih =>
    intro i acc hi hk ha
    unfold PLimbTells.demurralref01_Text.l0
    by_cases hlt : i < l.length
    · have hp := List.getElem?_eq_getElem hlt
      rw [List.drop_eq_getElem_cons hlt]
      have hb1 := hb _ (List.getElem_mem hlt)
      generalize l[i] = n at hp hb1
      rw [if_pos (by omega), if_pos (by omega), if_pos (by rw [I_len]; omega), I_rd hp]
      rw [show Int.tmod (n : Int) 256 = ((n % 256 : Nat) : Int) from rfl, show Int.tdiv (n : Int) 256 = ((n / 256 : Nat) : Int) from rfl, wr (n := ((n / 256 : Nat) : Int)) (by omega), wr (n := (i : Int) + 1) (by omega)]
      rw [show (((n % 256 : Nat) : Int)) % 256 = ((n % 256 : Nat) : Int) by omega, show (((n / 256 : Nat) : Int)) % 256 = ((n / 256 % 256 : Nat) : Int) by omega, Option.bind_some, if_pos (by rw [I_len]; simp; omega)]
      have := ih (i + 1) (acc ++ [n % 256, n / 256 % 256]) (by omega) (by omega) (by simp; omega)
      rw [I_app] at this
      rw [show ((i : Int) + 1) = ((i + 1 : Nat) : Int) by omega]
      rw [show [(((n % 256 : Nat)) : Int), ((n / 256 % 256 : Nat) : Int)] = I [n % 256, n / 256 % 256] from rfl, this]
      simp [unpair]
    · rw [if_neg (by omega), List.drop_eq_nil_of_le (by omega)]
      simp [unpair]
theorem textS (v : Nat) (k : Nat) (hk : 17 ≤ k) : PLimbTells.demurralref01_Text.f k (I (digs 16 v)) = some (textV v) := by
  unfold PLimbTells.demurralref01_Text.f
  have := textS_l (digs 16 v) (by rw [digs_len]; omega) (digs_lt _ _) k 0 [] (by omega) (by rw [digs_len]; omega) (by simp)
  rw [I_len]
  rw [List.drop_zero, List.nil_append, unpair_digs] at this
  exact this
/-! ### sums -/
def addL (a b : List Nat) : List Nat := List.zipWith (· + ·) a b
theorem addL_val : ∀ a b : List Nat, a.length = b.length → valD (addL a b) = valD a + valD b
  | [], [], _ => rfl
  | [], _ :: _, h => by simp at h
  | _ :: _, [], h => by simp at h
  | x :: a, y :: b, h => by
    have := addL_val a b (by simpa using h)
    show x + y + 65536 * valD (addL a b) = x + 65536 * valD a + (y + 65536 * valD b)
    omega
theorem addL_get {a b : List Nat} {i x y : Nat} (ha : a[i]? = some x) (hb : b[i]? = some y) : (addL a b).drop i = (x + y) :: (addL a b).drop (i + 1) := by
  obtain ⟨h1, rfl⟩ := List.getElem?_eq_some_iff.1 ha
  obtain ⟨h2, rfl⟩ := List.getElem?_eq_some_iff.1 hb
  rw [List.drop_eq_getElem_cons (by unfold addL; rw [List.length_zipWith]; omega)]
  simp [addL]
theorem addS_l (a b : List Nat) (ha : a.length = 16) (hb : b.length = 16) (hda : ∀ d ∈ a, d < 65536) (hdb : ∀ d ∈ b, d < 65536) : ∀ (k i : Nat) (acc : List Nat), i ≤ 16 → 60 - i < k → acc.length ≤ i → acc ++ (addL a b).drop i = addL a b →
    PLimbTells.demurralref01_Add.l0 k (I a) (I b) (I acc) (16 : Nat) i = some (I (digs 16 ((valD a + valD b) % P25))) := by
  intro k
  induction k with
  | zero => intro i acc _ h; omega
  | succ k ih =>
    intro i acc hi hk hacc he
    unfold PLimbTells.demurralref01_Add.l0
    by_cases hlt : i < 16
    · have h1 : i < a.length := by omega
      have h2 : i < b.length := by omega
      have e1 := List.getElem?_eq_getElem h1
      have e2 := List.getElem?_eq_getElem h2
      have b1 := hda _ (List.getElem_mem h1)
      have b2 := hdb _ (List.getElem_mem h2)
      generalize a[i] = x at e1 b1
      generalize b[i] = y at e2 b2
      rw [if_pos (by omega), if_pos (by omega), if_pos (by rw [I_len]; omega), if_pos (by rw [I_len]; omega), if_pos (by rw [I_len]; omega), I_rd e1, I_rd e2, wr (n := (x : Int) + y) (by omega), wr (n := (i : Int) + 1) (by omega)]
      have := ih (i + 1) (acc ++ [x + y]) (by omega) (by omega) (by simp; omega) (by rw [addL_get e1 e2] at he; rw [List.append_assoc]; exact he)
      rw [I_app] at this
      rw [show ((i : Int) + 1) = ((i + 1 : Nat) : Int) by omega, show ((x : Int) + y) = ((x + y : Nat) : Int) by omega]
      exact this
    · rw [if_neg (by omega)]
      have hl : (addL a b).length = 16 := by unfold addL; rw [List.length_zipWith]; omega
      rw [List.drop_eq_nil_of_le (by omega), List.append_nil] at he
      rw [he, LeftS _ hl ?_ k (by omega), Option.bind_some, addL_val a b (by omega)]
      intro d hd
      unfold addL at hd
      obtain ⟨j, hj, rfl⟩ := List.mem_iff_getElem.1 hd
      rw [List.length_zipWith] at hj
      have c1 := hda _ (List.getElem_mem (show j < a.length by omega))
      have c2 := hdb _ (List.getElem_mem (show j < b.length by omega))
      simp only [List.getElem_zipWith]
      omega
theorem addS (u v : Nat) (hu : u < 65536 ^ 16) (hv : v < 65536 ^ 16) (k : Nat) (hk : 61 ≤ k) : PLimbTells.demurralref01_Add.f k (I (digs 16 u)) (I (digs 16 v)) = some (I (digs 16 ((u + v) % P25))) := by
  unfold PLimbTells.demurralref01_Add.f
  have := addS_l (digs 16 u) (digs 16 v) (digs_len _ _) (digs_len _ _) (digs_lt _ _) (digs_lt _ _) k 0 [] (by omega) (by omega) (by simp) (by simp)
  rw [valD_digs, valD_digs, Nat.mod_eq_of_lt hu, Nat.mod_eq_of_lt hv] at this
  rw [I_len, digs_len]
  exact this
end Go.Proofs.Ytdmpnogjpgoaaaa

namespace Go.Proofs.Ytdmpnogjpgoaaaa
open Go.RowKit Go.Proofs.YtdmpnogjpgoaaaaW.PrintWords Go.Proofs.YtdmpnogjpgoaaaaW.PrintLast Go.Proofs.YtdmpnogjpgoaaaaW.PrintMore
/-! ### differences -/
def sbs : List Nat → List Nat → List Nat → Nat → List Nat × Nat
  | a :: l, p :: q, b :: m, r =>
    let n := a + p + 65536 - b - r
    if n < 65536 then (n :: (sbs l q m 1).1, (sbs l q m 1).2) else ((n - 65536) :: (sbs l q m 0).1, (sbs l q m 0).2)
  | _, _, _, r => ([], r)
theorem sbs_spec : ∀ (l p m : List Nat) (r : Nat), l.length = p.length → m.length = p.length → (∀ d ∈ l, d < 65536) → (∀ d ∈ p, d < 65536) → (∀ d ∈ m, d < 65536) → r ≤ 1 →
    (sbs l p m r).1.length = p.length ∧ (∀ d ∈ (sbs l p m r).1, d < 131072) ∧ (sbs l p m r).2 ≤ 1 ∧ valD (sbs l p m r).1 + valD m + r = valD l + valD p + 65536 ^ p.length * (sbs l p m r).2
  | [], [], [], r, _, _, _, _, _, h => by simp [sbs, valD]; omega
  | [], _ :: _, _, _, h, _, _, _, _, _ => by simp at h
  | _ :: _, [], _, _, h, _, _, _, _, _ => by simp at h
  | _, _ :: _, [], _, _, h, _, _, _, _ => by simp at h
  | _, [], _ :: _, _, _, h, _, _, _, _ => by simp at h
  | a :: l, p :: q, b :: m, r, h1, h2, ha, hp, hb, hr => by
    have a1 := ha a List.mem_cons_self
    have a2 := hp p List.mem_cons_self
    have a3 := hb b List.mem_cons_self
    have ih := fun r hr => sbs_spec l q m r (by simpa using h1) (by simpa using h2) (fun d hd => ha d (List.mem_cons_of_mem _ hd)) (fun d hd => hp d (List.mem_cons_of_mem _ hd)) (fun d hd => hb d (List.mem_cons_of_mem _ hd)) hr
    unfold sbs
    dsimp only
    by_cases hn : a + p + 65536 - b - r < 65536
    · obtain ⟨i1, i2, i3, i4⟩ := ih 1 (by omega)
      rw [if_pos hn]
      refine ⟨by simp [i1], ?_, i3, ?_⟩
      · intro d hd
        rcases List.mem_cons.1 hd with h | h
        · omega
        · exact i2 d h
      · show a + p + 65536 - b - r + 65536 * valD (sbs l q m 1).1 + (b + 65536 * valD m) + r = a + 65536 * valD l + (p + 65536 * valD q) + 65536 ^ (q.length + 1) * (sbs l q m 1).2
        rw [Nat.pow_succ, Nat.mul_comm (65536 ^ q.length) 65536, Nat.mul_assoc]
        generalize 65536 ^ q.length * (sbs l q m 1).2 = X at *
        omega
    · obtain ⟨i1, i2, i3, i4⟩ := ih 0 (by omega)
      rw [if_neg hn]
      refine ⟨by simp [i1], ?_, i3, ?_⟩
      · intro d hd
        rcases List.mem_cons.1 hd with h | h
        · omega
        · exact i2 d h
      · show a + p + 65536 - b - r - 65536 + 65536 * valD (sbs l q m 0).1 + (b + 65536 * valD m) + r = a + 65536 * valD l + (p + 65536 * valD q) + 65536 ^ (q.length + 1) * (sbs l q m 0).2
        rw [Nat.pow_succ, Nat.mul_comm (65536 ^ q.length) 65536, Nat.mul_assoc]
        generalize 65536 ^ q.length * (sbs l q m 0).2 = X at *
        omega
/-- Where no digit is above the prime's, a borrow comes through all of them or not at all. -/
theorem sbs_flat : ∀ (l p m : List Nat) (r : Nat), l.length = p.length → m.length = p.length → (∀ d ∈ l, d < 65536) → (∀ i x y : Nat, p[i]? = some x → m[i]? = some y → y ≤ x ∧ x < 65536) → r ≤ 1 → (sbs l p m r).2 = 1 → r = 1 ∧ m = p
  | [], [], [], r, _, _, _, _, _, h => by simp [sbs] at h; exact ⟨h, rfl⟩
  | [], _ :: _, _, _, h, _, _, _, _, _ => by simp at h
  | _ :: _, [], _, _, h, _, _, _, _, _ => by simp at h
  | _, _ :: _, [], _, _, h, _, _, _, _ => by simp at h
  | _, [], _ :: _, _, _, h, _, _, _, _ => by simp at h
  | a :: l, p :: q, b :: m, r, h1, h2, ha, hp, hr, h => by
    have a2 := hp 0 p b rfl rfl
    have ih := fun (r : Nat) hr hh => sbs_flat l q m r (by simpa using h1) (by simpa using h2) (fun d hd => ha d (List.mem_cons_of_mem _ hd)) (fun i x y hx hy => hp (i + 1) x y (by simpa using hx) (by simpa using hy)) hr hh
    unfold sbs at h
    dsimp only at h
    by_cases hn : a + p + 65536 - b - r < 65536
    · rw [if_pos hn] at h
      obtain ⟨_, i2⟩ := ih 1 (by omega) h
      exact ⟨by omega, by rw [i2]; congr 1; omega⟩
    · rw [if_neg hn] at h
      obtain ⟨i1, _⟩ := ih 0 (by omega) h
      cases i1
theorem sbs_noborrow (l m : List Nat) (hl : l.length = 16) (hm : m.length = 16) (hdl : ∀ d ∈ l, d < 65536) (hdm : ∀ d ∈ m, d < 65536) (hP : valD m < P25) : (sbs l primeD m 0).2 = 0 := by
  obtain ⟨_, _, h3, _⟩ := sbs_spec l primeD m 0 hl hm hdl prime_lt hdm (by omega)
  refine Nat.eq_zero_of_not_pos (fun hp => ?_)
  have h1 : (sbs l primeD m 0).2 = 1 := by omega
  match l, m, hl, hm with
  | a :: l, b :: m, hl, hm =>
    have hb := hdm b List.mem_cons_self
    have hlm : m.length = 15 := by simpa using hm
    have htop : ∀ y : Nat, m[14]? = some y → y ≤ 32767 := by
      intro y hy
      refine Nat.le_of_not_lt (fun hlt => ?_)
      have t := take_val hy
      rw [List.take_of_length_le (by omega)] at t
      have v : valD (b :: m) = b + 65536 * valD m := rfl
      have := Nat.mul_le_mul_left (65536 ^ 14) (show 32768 ≤ y from hlt)
      have e : 65536 * (65536 ^ 14 * 32768) = P25 + 19 := by decide +kernel
      omega
    have hle : ∀ i x y : Nat, (primeD.drop 1)[i]? = some x → m[i]? = some y → y ≤ x ∧ x < 65536 := by
      intro i x y hx hy
      have hil : i < m.length := (List.getElem?_eq_some_iff.1 hy).1
      have hy2 := hdm y (List.mem_cons_of_mem _ (List.mem_of_getElem? hy))
      by_cases h14 : i = 14
      · subst h14
        have : x = 32767 := by simpa [primeD] using hx.symm
        have := htop y hy
        omega
      · have : x = 65535 := by
          have : ∀ j, j < 14 → (primeD.drop 1)[j]? = some 65535 := by decide
          rw [this i (by omega)] at hx; injection hx with hx; exact hx.symm
        omega
    have hpl : primeD = 65517 :: primeD.drop 1 := rfl
    rw [hpl] at h1
    have F := fun (r : Nat) hr hh => sbs_flat l (primeD.drop 1) m r (show l.length = 15 by simpa using hl) (show m.length = 15 from hlm) (fun d hd => hdl d (List.mem_cons_of_mem _ hd)) hle hr hh
    unfold sbs at h1
    dsimp only at h1
    by_cases hn : a + 65517 + 65536 - b - 0 < 65536
    · rw [if_pos hn] at h1
      obtain ⟨_, e⟩ := F 1 (by omega) h1
      have v : valD (b :: m) = b + 65536 * valD m := rfl
      have v2 : valD primeD = 65517 + 65536 * valD (primeD.drop 1) := rfl
      rw [valD_prime] at v2
      have v3 : valD m = valD (primeD.drop 1) := by rw [e]
      have := hdl a List.mem_cons_self
      omega
    · rw [if_neg hn] at h1
      obtain ⟨e, _⟩ := F 0 (by omega) h1
      cases e
theorem sbs_get {l p m : List Nat} {r i a x b : Nat} (h1 : l[i]? = some a) (h2 : p[i]? = some x) (h3 : m[i]? = some b) : (sbs (l.drop i) (p.drop i) (m.drop i) r) =
    if a + x + 65536 - b - r < 65536 then ((a + x + 65536 - b - r) :: (sbs (l.drop (i + 1)) (p.drop (i + 1)) (m.drop (i + 1)) 1).1, (sbs (l.drop (i + 1)) (p.drop (i + 1)) (m.drop (i + 1)) 1).2)
    else ((a + x + 65536 - b - r - 65536) :: (sbs (l.drop (i + 1)) (p.drop (i + 1)) (m.drop (i + 1)) 0).1, (sbs (l.drop (i + 1)) (p.drop (i + 1)) (m.drop (i + 1)) 0).2) := by
  obtain ⟨k1, rfl⟩ := List.getElem?_eq_some_iff.1 h1
  obtain ⟨k2, rfl⟩ := List.getElem?_eq_some_iff.1 h2
  obtain ⟨k3, rfl⟩ := List.getElem?_eq_some_iff.1 h3
  rw [List.drop_eq_getElem_cons k1, List.drop_eq_getElem_cons k2, List.drop_eq_getElem_cons k3]
  rfl
theorem subS_l (a b : List Nat) (ha : a.length = 16) (hb : b.length = 16) (hda : ∀ d ∈ a, d < 65536) (hdb : ∀ d ∈ b, d < 65536) (hP : valD b < P25) : ∀ (k i r : Nat) (acc : List Nat), i ≤ 16 → 60 - i < k → acc.length ≤ i → r ≤ 1 → acc ++ (sbs (a.drop i) (primeD.drop i) (b.drop i) r).1 = (sbs a primeD b 0).1 →
    PLimbTells.demurralref01_Sub.l0 k (I a) (I b) (I primeD) (I acc) r (16 : Nat) i = some (I (digs 16 ((valD a + P25 - valD b) % P25))) := by
  intro k
  induction k with
  | zero => intro i r acc _ h; omega
  | succ k ih =>
    intro i r acc hi hk hacc hr he
    unfold PLimbTells.demurralref01_Sub.l0
    have hpl : primeD.length = 16 := rfl
    by_cases hlt : i < 16
    · have h1 : i < a.length := by omega
      have h2 : i < b.length := by omega
      have h3 : i < primeD.length := by omega
      have e1 := List.getElem?_eq_getElem h1
      have e2 := List.getElem?_eq_getElem h2
      have e3 := List.getElem?_eq_getElem h3
      have b1 := hda _ (List.getElem_mem h1)
      have b2 := hdb _ (List.getElem_mem h2)
      have b3 := prime_lt _ (List.getElem_mem h3)
      generalize a[i] = x at e1 b1
      generalize b[i] = y at e2 b2
      generalize primeD[i] = z at e3 b3
      have en : wrap64 (wrap64 (wrap64 (wrap64 (rd (I a) (i : Int) + rd (I primeD) (i : Int)) - rd (I b) (i : Int)) - (r : Int)) + 65536) = ((x + z + 65536 - y - r : Nat) : Int) := by
        rw [I_rd e1, I_rd e2, I_rd e3, wr (n := (x : Int) + z) (by omega), wr (n := (x : Int) + z - y) (by omega), wr (n := (x : Int) + z - y - r) (by omega), wr (by omega)]
        omega
      rw [sbs_get e1 e3 e2] at he
      rw [if_pos (by omega), if_pos (by omega), if_pos (by rw [I_len]; omega), if_pos (by rw [I_len]; omega), if_pos (by rw [I_len]; omega), en, wr (n := (i : Int) + 1) (by omega)]
      rw [show ((i : Int) + 1) = ((i + 1 : Nat) : Int) by omega]
      by_cases hn : x + z + 65536 - y - r < 65536
      · rw [if_pos hn] at he
        rw [if_pos (by omega), if_pos (by rw [I_len]; omega), wr (n := ((x + z + 65536 - y - r : Nat) : Int) + 65536) (by omega), wr (by omega)]
        have := ih (i + 1) 1 (acc ++ [x + z + 65536 - y - r]) (by omega) (by omega) (by simp; omega) (by omega) (by rw [List.append_assoc]; exact he)
        rw [I_app] at this
        rw [show ((x + z + 65536 - y - r : Nat) : Int) + 65536 - 65536 = ((x + z + 65536 - y - r : Nat) : Int) by omega]
        exact this
      · rw [if_neg hn] at he
        rw [if_neg (by omega), if_pos (by rw [I_len]; omega), wr (by omega)]
        have := ih (i + 1) 0 (acc ++ [x + z + 65536 - y - r - 65536]) (by omega) (by omega) (by simp; omega) (by omega) (by rw [List.append_assoc]; exact he)
        rw [I_app] at this
        rw [show ((x + z + 65536 - y - r : Nat) : Int) - 65536 = ((x + z + 65536 - y - r - 65536 : Nat) : Int) by omega]
        exact this
    · rw [if_neg (by omega)]
      obtain rfl : i = 16 := by omega
      have ea : a.drop 16 = [] := List.drop_eq_nil_of_le (by omega)
      rw [ea, show ∀ p m r, (sbs [] p m r).1 = [] from fun p m r => by cases p <;> cases m <;> rfl, List.append_nil] at he
      obtain ⟨s1, s2, s3, s4⟩ := sbs_spec a primeD b 0 ha hb hda prime_lt hdb (by omega)
      rw [sbs_noborrow a b ha hb hda hdb hP, valD_prime] at s4
      rw [he, LeftS _ (s1.trans hpl) (fun d hd => by have := s2 d hd; omega) k (by omega), Option.bind_some]
      rw [show valD a + P25 - valD b = valD (sbs a primeD b 0).1 by omega]
theorem subS (u v : Nat) (hu : u < 65536 ^ 16) (hv : v < P25) (k : Nat) (hk : 61 ≤ k) : PLimbTells.demurralref01_Sub.f k (I (digs 16 u)) (I (digs 16 v)) = some (I (digs 16 ((u + P25 - v) % P25))) := by
  unfold PLimbTells.demurralref01_Sub.f
  have hM := M16
  have hv2 : v < 65536 ^ 16 := by omega
  have := subS_l (digs 16 u) (digs 16 v) (digs_len _ _) (digs_len _ _) (digs_lt _ _) (digs_lt _ _) (by rw [valD_digs, Nat.mod_eq_of_lt hv2]; exact hv) k 0 0 [] (by omega) (by omega) (by simp) (by omega) (by simp)
  rw [valD_digs, valD_digs, Nat.mod_eq_of_lt hu, Nat.mod_eq_of_lt hv2] at this
  rw [I_len, digs_len, primeS k (by omega), Option.bind_some]
  exact this
end Go.Proofs.Ytdmpnogjpgoaaaa

namespace Go.Proofs.Ytdmpnogjpgoaaaa
open Go.RowKit Go.Proofs.YtdmpnogjpgoaaaaW.PrintWords Go.Proofs.YtdmpnogjpgoaaaaW.PrintLast Go.Proofs.YtdmpnogjpgoaaaaW.PrintMore
/-! ### products -/
def sm (f : Nat → Nat) : Nat → Nat
  | 0 => 0
  | n + 1 => sm f n + f n
theorem sm_congr {f g : Nat → Nat} : ∀ n : Nat, (∀ i, i < n → f i = g i) → sm f n = sm g n
  | 0, _ => rfl
  | n + 1, h => by show sm f n + f n = sm g n + g n; rw [sm_congr n (fun i hi => h i (by omega)), h n (by omega)]
theorem sm_mod {f g : Nat → Nat} (P : Nat) : ∀ n : Nat, (∀ i, i < n → f i % P = g i % P) → sm f n % P = sm g n % P
  | 0, _ => rfl
  | n + 1, h => by show (sm f n + f n) % P = (sm g n + g n) % P; rw [Nat.add_mod, sm_mod P n (fun i hi => h i (by omega)), h n (by omega), ← Nat.add_mod]
theorem sm_add (f g : Nat → Nat) : ∀ n : Nat, sm (fun i => f i + g i) n = sm f n + sm g n
  | 0 => rfl
  | n + 1 => by show sm _ n + (f n + g n) = sm f n + f n + (sm g n + g n); rw [sm_add f g n]; omega
theorem sm_mul (c : Nat) (f : Nat → Nat) : ∀ n : Nat, sm (fun i => c * f i) n = c * sm f n
  | 0 => rfl
  | n + 1 => by show sm _ n + c * f n = c * (sm f n + f n); rw [sm_mul c f n, Nat.mul_add]
theorem sm_swap (f : Nat → Nat → Nat) (m : Nat) : ∀ n : Nat, sm (fun i => sm (fun j => f i j) m) n = sm (fun j => sm (fun i => f i j) n) m
  | 0 => by
    show 0 = sm (fun _ => 0) m
    induction m with
    | zero => rfl
    | succ m ih => show 0 = sm (fun _ => 0) m + 0; rw [← ih]
  | n + 1 => by
    show sm _ n + sm (fun j => f n j) m = sm (fun j => sm (fun i => f i j) n + f n j) m
    rw [sm_swap f m n, sm_add]
theorem sm_split (f : Nat → Nat) (m : Nat) : ∀ n : Nat, sm f (m + n) = sm f m + sm (fun t => f (m + t)) n
  | 0 => rfl
  | n + 1 => by show sm f (m + n) + f (m + n) = sm f m + (sm _ n + f (m + n)); rw [sm_split f m n]; omega
theorem valD_app (x : Nat) : ∀ l : List Nat, valD (l ++ [x]) = valD l + 65536 ^ l.length * x
  | [] => by simp [valD]
  | a :: l => by
    show a + 65536 * valD (l ++ [x]) = a + 65536 * valD l + 65536 ^ (l.length + 1) * x
    rw [valD_app x l, Nat.pow_succ, Nat.mul_comm (65536 ^ l.length) 65536, Nat.mul_assoc]; omega
theorem valD_range (f : Nat → Nat) : ∀ n : Nat, valD ((List.range n).map f) = sm (fun i => 65536 ^ i * f i) n
  | 0 => rfl
  | n + 1 => by
    rw [List.range_succ, List.map_append, List.map_singleton, valD_app, valD_range f n, List.length_map, List.length_range]; rfl
theorem valD_sm : ∀ l : List Nat, valD l = sm (fun i => 65536 ^ i * l.getD i 0) l.length := fun l => by
  have h := valD_range (fun i => l.getD i 0) l.length
  rw [← h]
  congr 1
  refine List.ext_getElem (by simp) (fun i h1 h2 => ?_)
  simp [List.getD_eq_getElem?_getD, List.getElem?_eq_getElem h1]
/-- One product of a row: digit j of a, for digit i. -/
def mc (a b : List Nat) (i j : Nat) : Nat := if j ≤ i then a.getD j 0 * b.getD (i - j) 0 else 38 * a.getD j 0 * b.getD (16 + i - j) 0
def rowM (a b : List Nat) (i : Nat) : Nat := sm (mc a b i) 16
theorem col_mod (a b : List Nat) (hb : b.length = 16) (j : Nat) (hj : j < 16) : sm (fun i => 65536 ^ i * mc a b i j) 16 % P25 = 65536 ^ j * a.getD j 0 * valD b % P25 := by
  rw [valD_sm b, hb, ← sm_mul]
  rw [show (16 : Nat) = j + (16 - j) by omega, sm_split]
  rw [show j + (16 - j) = (16 - j) + j by omega, sm_split _ (16 - j) j, Nat.add_comm (sm _ (16 - j))]
  rw [Nat.add_mod, Nat.add_mod (sm _ j) (sm _ (16 - j))]
  congr 2
  · refine sm_mod P25 j (fun i hi => ?_)
    unfold mc
    rw [if_neg (by omega), show 16 + i - j = 16 - j + i by omega]
    generalize a.getD j 0 = x
    generalize b.getD (16 - j + i) 0 = y
    have e : 65536 ^ j * x * (65536 ^ (16 - j + i) * y) = 65536 ^ 16 * (65536 ^ i * (x * y)) := by
      have : 65536 ^ j * 65536 ^ (16 - j + i) = 65536 ^ 16 * 65536 ^ i := by rw [← Nat.pow_add, ← Nat.pow_add]; congr 1; omega
      calc 65536 ^ j * x * (65536 ^ (16 - j + i) * y) = (65536 ^ j * 65536 ^ (16 - j + i)) * (x * y) := by ac_rfl
        _ = _ := by rw [this]; ac_rfl
    rw [e, M16, Nat.add_mul, Nat.mul_comm 2 P25, Nat.mul_assoc P25, Nat.mul_add_mod]
    congr 1
    ac_rfl
  · congr 1
    refine sm_congr _ (fun t ht => ?_)
    unfold mc
    rw [if_pos (by omega), show j + t - j = t by omega, Nat.pow_add]
    ac_rfl
theorem mul_mod' (a b : List Nat) (ha : a.length = 16) (hb : b.length = 16) : valD ((List.range 16).map (rowM a b)) % P25 = valD a * valD b % P25 := by
  rw [valD_range]
  have h1 : sm (fun i => 65536 ^ i * rowM a b i) 16 = sm (fun j => sm (fun i => 65536 ^ i * mc a b i j) 16) 16 := by
    rw [← sm_swap]
    refine sm_congr _ (fun i _ => ?_)
    unfold rowM
    rw [← sm_mul]
  rw [h1, sm_mod P25 16 (fun j hj => col_mod a b hb j hj)]
  have h2 : sm (fun j => 65536 ^ j * a.getD j 0 * valD b) 16 = valD a * valD b := by
    rw [valD_sm a, ha, Nat.mul_comm, ← sm_mul]
    exact sm_congr _ (fun i _ => Nat.mul_comm _ _)
  rw [h2]
theorem getD_lt {l : List Nat} (h : ∀ d ∈ l, d < 65536) (i : Nat) : l.getD i 0 < 65536 := by
  rw [List.getD_eq_getElem?_getD]
  cases e : l[i]? with
  | none => simp
  | some x => exact h x (List.mem_of_getElem? e)
theorem mc_le {a b : List Nat} (ha : ∀ d ∈ a, d < 65536) (hb : ∀ d ∈ b, d < 65536) (i j : Nat) : mc a b i j ≤ 163203776550 := by
  have hx := getD_lt ha j
  unfold mc
  split
  · have hy := getD_lt hb (i - j)
    have := Nat.mul_le_mul (show a.getD j 0 ≤ 65535 by omega) (show b.getD (i - j) 0 ≤ 65535 by omega)
    omega
  · have hy := getD_lt hb (16 + i - j)
    have := Nat.mul_le_mul (show 38 * a.getD j 0 ≤ 38 * 65535 by omega) (show b.getD (16 + i - j) 0 ≤ 65535 by omega)
    omega
theorem sm_le {f : Nat → Nat} {c : Nat} (h : ∀ i, f i ≤ c) : ∀ n : Nat, sm f n ≤ n * c
  | 0 => by simp [sm]
  | n + 1 => by
    have := sm_le h n
    have := h n
    show sm f n + f n ≤ _
    rw [Nat.add_mul]; omega
theorem I_rdD {l : List Nat} {i : Nat} (h : i < l.length) : rd (I l) (i : Int) = ((l.getD i 0 : Nat) : Int) := by
  rw [I_rd (List.getElem?_eq_getElem h), List.getD_eq_getElem?_getD, List.getElem?_eq_getElem h]; rfl
theorem mulS_1 (a b : List Nat) (ha : a.length = 16) (hb : b.length = 16) (hda : ∀ d ∈ a, d < 65536) (hdb : ∀ d ∈ b, d < 65536) (acc : List Nat) (hacc : acc.length ≤ 16) (i : Nat) (hi : i < 16) (k : Nat) :
    ∀ (t j : Nat), j + t = 16 → PLimbTells.demurralref01_Mul.l1 (k + t + 1) (I a) (I b) (I acc) i (sm (mc a b i) j : Nat) j = PLimbTells.demurralref01_Mul.l0 k (I a) (I b) (I (acc ++ [rowM a b i])) ((i + 1 : Nat) : Int) := by
  intro t
  induction t with
  | zero =>
    intro j hj
    obtain rfl : j = 16 := by omega
    unfold PLimbTells.demurralref01_Mul.l1
    rw [if_neg (by omega), if_pos (by rw [I_len]; omega), wr (by omega), I_app]
    rfl
  | succ t ih =>
    intro j hj
    have hs := sm_le (mc_le hda hdb i) j
    have hc := mc_le hda hdb i j
    have hjl := Nat.mul_le_mul_right 163203776550 (show j ≤ 16 by omega)
    have hx := getD_lt hda j
    rw [show k + (t + 1) + 1 = (k + t + 1) + 1 by omega]
    unfold PLimbTells.demurralref01_Mul.l1
    rw [if_pos (by omega), wr (n := (j : Int) + 1) (by omega), show (j : Int) + 1 = ((j + 1 : Nat) : Int) by omega]
    rw [← ih (j + 1) (by omega)]
    rw [show sm (mc a b i) (j + 1) = sm (mc a b i) j + mc a b i j from rfl]
    have hsz : sm (mc a b i) j ≤ 2611260424800 := by omega
    by_cases hji : j ≤ i
    · have hm : mc a b i j = a.getD j 0 * b.getD (i - j) 0 := if_pos hji
      rw [hm] at hc ⊢
      rw [if_pos (by omega), if_pos (by omega), if_pos (by rw [I_len]; omega), wr (n := (i : Int) - j) (by omega), show (i : Int) - j = ((i - j : Nat) : Int) by omega, if_pos (by omega), if_pos (by rw [I_len]; omega), I_rdD (by omega), I_rdD (by omega)]
      generalize sm (mc a b i) j = X at *
      generalize a.getD j 0 = x at *
      generalize b.getD (i - j) 0 = y at *
      rw [← Int.natCast_mul, wr (n := ((x * y : Nat) : Int)) (by omega), wr (by omega), ← Int.natCast_add]
    · have hm : mc a b i j = 38 * a.getD j 0 * b.getD (16 + i - j) 0 := if_neg hji
      rw [hm] at hc ⊢
      rw [if_neg (by omega), if_pos (by omega), if_pos (by rw [I_len]; omega), wr (n := (16 : Int) + i) (by omega), wr (n := (16 : Int) + i - j) (by omega), show (16 : Int) + i - j = ((16 + i - j : Nat) : Int) by omega, if_pos (by omega), if_pos (by rw [I_len]; omega), I_rdD (by omega), I_rdD (by omega)]
      generalize sm (mc a b i) j = X at *
      generalize a.getD j 0 = x at *
      generalize b.getD (16 + i - j) 0 = y at *
      rw [wr (n := 38 * (x : Int)) (by omega), show 38 * (x : Int) = ((38 * x : Nat) : Int) by omega, ← Int.natCast_mul, wr (n := ((38 * x * y : Nat) : Int)) (by omega), wr (by omega), ← Int.natCast_add]
theorem mulS_0 (a b : List Nat) (ha : a.length = 16) (hb : b.length = 16) (hda : ∀ d ∈ a, d < 65536) (hdb : ∀ d ∈ b, d < 65536) :
    ∀ (t i : Nat), i + t = 16 → PLimbTells.demurralref01_Mul.l0 (41 + 18 * t) (I a) (I b) (I ((List.range i).map (rowM a b))) i = some (I (digs 16 (valD a * valD b % P25))) := by
  intro t
  induction t with
  | zero =>
    intro i hi
    obtain rfl : i = 16 := by omega
    show (if ((16 : Nat) : Int) < 16 then PLimbTells.demurralref01_Mul.l1 40 (I a) (I b) (I ((List.range 16).map (rowM a b))) ((16 : Nat) : Int) 0 0 else (PLimbTells.demurralref01_Left.f 40 (I ((List.range 16).map (rowM a b)))).bind fun t => some t) = _
    rw [if_neg (by omega), LeftS _ (by simp) ?_ 40 (by omega), Option.bind_some, mul_mod' a b ha hb]
    intro d hd
    obtain ⟨i, _, rfl⟩ := List.mem_map.1 hd
    have := sm_le (mc_le hda hdb i) 16
    unfold rowM
    omega
  | succ t ih =>
    intro i hi
    rw [show 41 + 18 * (t + 1) = (41 + 18 * t + 16 + 1) + 1 by omega]
    show (if (i : Int) < 16 then PLimbTells.demurralref01_Mul.l1 (41 + 18 * t + 16 + 1) (I a) (I b) (I ((List.range i).map (rowM a b))) i 0 0 else (PLimbTells.demurralref01_Left.f (41 + 18 * t + 16 + 1) (I ((List.range i).map (rowM a b)))).bind fun t => some t) = _
    rw [if_pos (by omega)]
    have := mulS_1 a b ha hb hda hdb ((List.range i).map (rowM a b)) (by simp; omega) i (by omega) (41 + 18 * t) 16 0 (by omega)
    refine this.trans ?_
    have h2 := ih (i + 1) (by omega)
    rw [List.range_succ, List.map_append, List.map_singleton] at h2
    exact h2
theorem mulS (u v : Nat) (hu : u < 65536 ^ 16) (hv : v < 65536 ^ 16) (k : Nat) (hk : 329 ≤ k) : PLimbTells.demurralref01_Mul.f k (I (digs 16 u)) (I (digs 16 v)) = some (I (digs 16 (u * v % P25))) := by
  obtain ⟨j, rfl⟩ := Nat.exists_eq_add_of_le hk
  refine liftO (fun k => PLimbTells.demurralref01_Mul.mono _ _ k) ?_ j
  have := mulS_0 (digs 16 u) (digs 16 v) (digs_len _ _) (digs_len _ _) (digs_lt _ _) (digs_lt _ _) 16 0 (by omega)
  rw [valD_digs, valD_digs, Nat.mod_eq_of_lt hu, Nat.mod_eq_of_lt hv] at this
  exact this
end Go.Proofs.Ytdmpnogjpgoaaaa

namespace Go.Proofs.Ytdmpnogjpgoaaaa
open Go.RowKit Go.Proofs.YtdmpnogjpgoaaaaW.PrintWords Go.Proofs.YtdmpnogjpgoaaaaW.PrintLast Go.Proofs.YtdmpnogjpgoaaaaW.PrintMore
theorem wri {n : Int} (h : -9223372036854775808 ≤ n ∧ n ≤ 9223372036854775807) : wrap64 n = n := wr h
/-- word j of a number -/
def wd (v j : Nat) : Nat := v / 18446744073709551616 ^ j % 18446744073709551616
theorem wd_lt (v j : Nat) : wd v j < 18446744073709551616 := Nat.mod_lt _ (by decide)
def aggN (v : Nat) : Array Value := #[.int .u64 (wd v 0), .int .u64 (wd v 1), .int .u64 (wd v 2), .int .u64 (wd v 3)]
theorem valB_take {l : List Nat} {i n : Nat} (h : l[i]? = some n) : valB (l.take (i + 1)) = valB (l.take i) + 256 ^ i * n := by
  induction l generalizing i with
  | nil => simp at h
  | cons a l ih =>
    cases i with
    | zero => simp at h; subst h; simp [valB]
    | succ i =>
      have := ih (i := i) (by simpa using h)
      show a + 256 * valB (l.take (i + 1)) = a + 256 * valB (l.take i) + 256 ^ (i + 1) * n
      rw [this, Nat.pow_succ, Nat.mul_comm (256 ^ i) 256, Nat.mul_assoc]; omega
theorem valB_take_lt {l : List Nat} (hl : ∀ d ∈ l, d < 256) (i : Nat) (hi : i ≤ l.length) : valB (l.take i) < 256 ^ i := by
  have := valB_lt (l.take i) (fun d hd => hl d (List.mem_of_mem_take hd))
  rwa [List.length_take, Nat.min_eq_left hi] at this
theorem pow_split (q r : Nat) : 256 ^ (8 * q + r) = 18446744073709551616 ^ q * 256 ^ r := by
  rw [Nat.pow_add, Nat.pow_mul]
theorem pow_r (r : Nat) (h : r < 8) : 256 ^ (r + 1) ≤ 18446744073709551616 := by
  have := Nat.pow_le_pow_right (show 0 < 256 by decide) (show r + 1 ≤ 8 by omega)
  exact this
theorem wd_below {v q r b j : Nat} (hj : j < q) : wd (v + 256 ^ (8 * q + r) * b) j = wd v j := by
  unfold wd
  obtain ⟨d, rfl⟩ : ∃ d, q = j + 1 + d := ⟨q - j - 1, by omega⟩
  rw [pow_split, Nat.pow_add, Nat.pow_succ, show 18446744073709551616 ^ j * 18446744073709551616 * 18446744073709551616 ^ d * 256 ^ r * b = 18446744073709551616 ^ j * (18446744073709551616 * (18446744073709551616 ^ d * 256 ^ r * b)) by ac_rfl]
  rw [Nat.add_mul_div_left _ _ (Nat.pow_pos (by decide)), Nat.add_mul_mod_self_left]
theorem wd_at {v q r b : Nat} (hr : r < 8) (hb : b < 256) (hv : v < 256 ^ (8 * q + r)) : wd v q < 256 ^ r ∧ wd (v + 256 ^ (8 * q + r) * b) q = wd v q + 256 ^ r * b := by
  have hp := pow_r r hr
  rw [pow_split] at hv
  have h1 : v / 18446744073709551616 ^ q < 256 ^ r := Nat.div_lt_of_lt_mul hv
  have h2 : 256 ^ r * (b + 1) ≤ 256 ^ (r + 1) := by rw [Nat.pow_succ]; exact Nat.mul_le_mul_left _ (by omega)
  rw [Nat.mul_add, Nat.mul_one] at h2
  have h3 : 256 ^ r ≤ 18446744073709551616 := Nat.le_trans (Nat.pow_le_pow_right (by decide) (by omega)) hp
  unfold wd
  rw [pow_split, Nat.mul_assoc, Nat.add_mul_div_left _ _ (Nat.pow_pos (by decide))]
  rw [Nat.mod_eq_of_lt (a := v / 18446744073709551616 ^ q) (by omega), Nat.mod_eq_of_lt (by omega)]
  exact ⟨h1, rfl⟩
theorem wd_above {v q r b j : Nat} (hj : q < j) (hr : r < 8) (hb : b < 256) (hv : v < 256 ^ (8 * q + r)) : wd (v + 256 ^ (8 * q + r) * b) j = wd v j := by
  have hp := pow_r r hr
  have h0 : v + 256 ^ (8 * q + r) * b < 18446744073709551616 ^ j := by
    have h1 : v + 256 ^ (8 * q + r) * b < 256 ^ (8 * q + r) * (b + 1) := by rw [Nat.mul_add, Nat.mul_one]; omega
    have h2 : 256 ^ (8 * q + r) * (b + 1) ≤ 256 ^ (8 * q + r) * 256 := Nat.mul_le_mul_left _ (by omega)
    have h3 : 256 ^ (8 * q + r) * 256 = 18446744073709551616 ^ q * 256 ^ (r + 1) := by rw [pow_split, Nat.mul_assoc, ← Nat.pow_succ]
    have h4 : 18446744073709551616 ^ q * 256 ^ (r + 1) ≤ 18446744073709551616 ^ (q + 1) := by rw [Nat.pow_succ 18446744073709551616]; exact Nat.mul_le_mul_left _ hp
    have h5 : 18446744073709551616 ^ (q + 1) ≤ 18446744073709551616 ^ j := Nat.pow_le_pow_right (by decide) hj
    omega
  unfold wd
  rw [Nat.div_eq_of_lt h0, Nat.div_eq_of_lt (Nat.lt_of_le_of_lt (Nat.le_add_right _ _) h0)]
theorem or_add {x b r : Nat} (hx : x < 256 ^ r) (hr : r < 8) (hb : b < 256) : bits .or .u64 (x : Int) (IntKind.u64.wrap (IntKind.u64.wrap (b : Int) * 2 ^ (8 * (r : Int)).toNat)) = ((x + 256 ^ r * b : Nat) : Int) := by
  have hp := pow_r r hr
  have h2 : 256 ^ r * (b + 1) ≤ 256 ^ (r + 1) := by rw [Nat.pow_succ]; exact Nat.mul_le_mul_left _ (by omega)
  rw [Nat.mul_add, Nat.mul_one] at h2
  have e8 : (256 : Nat) ^ r = 2 ^ (8 * r) := by rw [Nat.pow_mul]
  have w1 : IntKind.u64.wrap (b : Int) = (b : Int) := by rw [IntKind.wrap_u64]; omega
  have w2 : IntKind.u64.wrap ((b : Int) * 2 ^ (8 * (r : Int)).toNat) = ((256 ^ r * b : Nat) : Int) := by
    rw [show (8 * (r : Int)).toNat = 8 * r by omega, show (b : Int) * 2 ^ (8 * r) = ((256 ^ r * b : Nat) : Int) by rw [e8, Int.natCast_mul, Int.natCast_pow, Int.mul_comm]; rfl, IntKind.wrap_u64]
    omega
  rw [w1, w2]
  have hor : 256 ^ r * b + x = 256 ^ r * b ||| x := by rw [e8] at hx ⊢; exact Nat.two_pow_add_eq_or_of_lt hx b
  show IntKind.u64.wrap ((BitVec.ofInt 64 (x : Int) ||| BitVec.ofInt 64 ((256 ^ r * b : Nat) : Int)).toNat : Int) = _
  rw [BitVec.ofInt_natCast, BitVec.ofInt_natCast, BitVec.toNat_or, BitVec.toNat_ofNat, BitVec.toNat_ofNat, Nat.mod_eq_of_lt (a := x) (by omega), Nat.mod_eq_of_lt (by omega), Nat.or_comm, ← hor, IntKind.wrap_u64]
  omega
end Go.Proofs.Ytdmpnogjpgoaaaa

import Derived.Test.YtdmpnogjpgoaaaaQLimbTellsx3
namespace Go.Proofs.Ytdmpnogjpgoaaaa
open Go.RowKit Go.Proofs.YtdmpnogjpgoaaaaW.PrintWords Go.Proofs.YtdmpnogjpgoaaaaW.PrintLast Go.Proofs.YtdmpnogjpgoaaaaW.PrintMore
def I (l : List Nat) : List Int := l.map (fun n : Nat => (n : Int))
theorem I_len (l : List Nat) : (I l).length = l.length := by simp [I]
theorem I_app (l m : List Nat) : I (l ++ m) = I l ++ I m := by simp [I]
theorem I_rd {l : List Nat} {i n : Nat} (h : l[i]? = some n) : rd (I l) (i : Int) = (n : Int) := by
  unfold rd I
  simp [List.getD_eq_getElem?_getD, h]
theorem wr {n : Int} (h : -9223372036854775808 ≤ n ∧ n ≤ 9223372036854775807) : wrap64 n = n := by unfold wrap64; omega
theorem tm (a : Nat) : Int.tmod (a : Int) 65536 = ((a % 65536 : Nat) : Int) := rfl
theorem td (a : Nat) : Int.tdiv (a : Int) 65536 = ((a / 65536 : Nat) : Int) := rfl
/-- The value of digits of 16 bits. -/
def valD : List Nat → Nat
  | [] => 0
  | n :: l => n + 65536 * valD l
def car : List Nat → Nat → List Nat × Nat
  | [], o => ([], o)
  | n :: l, o => ((n + o) % 65536 :: (car l ((n + o) / 65536)).1, (car l ((n + o) / 65536)).2)
theorem car_len : ∀ (l : List Nat) (o : Nat), (car l o).1.length = l.length
  | [], _ => rfl
  | n :: l, o => by show (car l _).1.length + 1 = _; rw [car_len l]; rfl
theorem car_val : ∀ (l : List Nat) (o : Nat), valD (car l o).1 + 65536 ^ l.length * (car l o).2 = valD l + o
  | [], o => by simp [car, valD]
  | n :: l, o => by
    have h := car_val l ((n + o) / 65536)
    show (n + o) % 65536 + 65536 * valD (car l ((n + o) / 65536)).1 + 65536 ^ (l.length + 1) * (car l ((n + o) / 65536)).2 = n + 65536 * valD l + o
    rw [Nat.pow_succ, Nat.mul_comm (65536 ^ l.length) 65536, Nat.mul_assoc]
    generalize 65536 ^ l.length * (car l ((n + o) / 65536)).2 = X at *
    omega
theorem car_lt : ∀ (l : List Nat) (o : Nat), ∀ d ∈ (car l o).1, d < 65536
  | [], _, d, h => by simp [car] at h
  | n :: l, o, d, h => by
    rcases List.mem_cons.1 h with h | h
    · subst h; exact Nat.mod_lt _ (by decide)
    · exact car_lt l _ d h
theorem carryS_l (l : List Nat) (hl : l.length ≤ 1000) (hb : ∀ d ∈ l, d < 4611686018427387904) : ∀ (k i o : Nat) (acc : List Nat), i ≤ l.length → l.length - i < k → acc.length ≤ i → o < 4611686018427387904 →
    PLimbTells.demurralref01_carry.l0 k (I acc) o (I l) l.length i = some (I (acc ++ (car (l.drop i) o).1), ((car (l.drop i) o).2 : Int)) := by
  intro k
  induction k with
  | zero => intro i o acc _ h; omega
  | succ k ih =>
    intro i o acc hi hk ha ho
    unfold PLimbTells.demurralref01_carry.l0
    by_cases hlt : i < l.length
    · have hp := List.getElem?_eq_getElem hlt
      rw [List.drop_eq_getElem_cons hlt]
      have hb1 := hb _ (List.getElem_mem hlt)
      generalize l[i] = n at hp hb1
      have e1 : wrap64 (rd (I l) (i : Int) + (o : Int)) = ((n + o : Nat) : Int) := by rw [I_rd hp, wr (by omega)]; omega
      rw [if_pos (by omega), if_pos (by omega), if_pos (by rw [I_len]; omega), if_pos (by rw [I_len]; omega), e1, tm, td, wr (n := (i : Int) + 1) (by omega), wr (by omega)]
      have := ih (i + 1) ((n + o) / 65536) (acc ++ [(n + o) % 65536]) (by omega) (by omega) (by simp; omega) (by omega)
      rw [I_app] at this
      rw [show ((i : Int) + 1) = ((i + 1 : Nat) : Int) by omega]
      rw [show [(((n + o) % 65536 : Nat) : Int)] = I [(n + o) % 65536] from rfl, this]
      simp only [car, I_app, List.append_assoc, List.singleton_append]
    · rw [if_neg (by omega), List.drop_eq_nil_of_le (by omega)]
      simp [car]
theorem carryS (l : List Nat) (hl : l.length ≤ 1000) (hb : ∀ d ∈ l, d < 4611686018427387904) (k : Nat) (hk : l.length < k) :
    PLimbTells.demurralref01_carry.f k (I l) = some (I (car l 0).1, ((car l 0).2 : Int)) := by
  unfold PLimbTells.demurralref01_carry.f
  rw [I_len]
  exact carryS_l l hl hb k 0 0 [] (by omega) (by omega) (by simp) (by omega)
theorem valD_lt : ∀ (l : List Nat), (∀ d ∈ l, d < 65536) → valD l < 65536 ^ l.length
  | [], _ => by simp [valD]
  | n :: l, h => by
    have h1 := valD_lt l (fun d hd => h d (List.mem_cons_of_mem _ hd))
    have h2 := h n List.mem_cons_self
    show n + 65536 * valD l < 65536 ^ (l.length + 1)
    rw [Nat.pow_succ]; omega
def digs : Nat → Nat → List Nat
  | 0, _ => []
  | n + 1, v => v % 65536 :: digs n (v / 65536)
theorem digs_len : ∀ n v : Nat, (digs n v).length = n
  | 0, _ => rfl
  | n + 1, v => by show (digs n _).length + 1 = _; rw [digs_len]
theorem digs_lt : ∀ (n v : Nat), ∀ d ∈ digs n v, d < 65536
  | 0, _, d, h => by simp [digs] at h
  | n + 1, v, d, h => by
    rcases List.mem_cons.1 h with h | h
    · subst h; exact Nat.mod_lt _ (by decide)
    · exact digs_lt n _ d h
theorem valD_digs : ∀ n v : Nat, valD (digs n v) = v % 65536 ^ n
  | 0, v => by simp [digs, valD, Nat.mod_one]
  | n + 1, v => by
    show v % 65536 + 65536 * valD (digs n (v / 65536)) = _
    rw [valD_digs n, Nat.pow_succ, Nat.mul_comm (65536 ^ n), Nat.mod_mul]
theorem digs_valD : ∀ (l : List Nat), (∀ d ∈ l, d < 65536) → digs l.length (valD l) = l
  | [], _ => rfl
  | n :: l, h => by
    have h2 := h n List.mem_cons_self
    show (n + 65536 * valD l) % 65536 :: digs l.length ((n + 65536 * valD l) / 65536) = n :: l
    rw [show (n + 65536 * valD l) % 65536 = n by omega, show (n + 65536 * valD l) / 65536 = valD l by omega, digs_valD l (fun d hd => h d (List.mem_cons_of_mem _ hd))]
theorem car_over : ∀ (l : List Nat) (o : Nat), (∀ d ∈ l, d < 72057594037927936) → o < 2199023255552 → (car l o).2 < 2199023255552
  | [], _, _, h => h
  | n :: l, o, h, ho => by
    have h2 := h n List.mem_cons_self
    exact car_over l _ (fun d hd => h d (List.mem_cons_of_mem _ hd)) (by omega)
theorem liftO {α : Type} {F : Nat → Option α} (hm : ∀ k, LeO (F k) (F (k + 1))) {r : α} {k : Nat} (h : F k = some r) : ∀ j, F (k + j) = some r
  | 0 => h
  | j + 1 => hm (k + j) r (liftO hm h j)
def primeD : List Nat := [65517, 65535, 65535, 65535, 65535, 65535, 65535, 65535, 65535, 65535, 65535, 65535, 65535, 65535, 65535, 32767]
def P25 : Nat := 57896044618658097711785492504343953926634992332820282019728792003956564819949
theorem valD_prime : valD primeD = P25 := by decide +kernel
theorem primeS (k : Nat) (hk : 16 ≤ k) : PLimbTells.demurralref01_prime.f k = some (I primeD) := by
  obtain ⟨j, rfl⟩ := Nat.exists_eq_add_of_le hk
  exact liftO (fun k => PLimbTells.demurralref01_prime.mono k) (show PLimbTells.demurralref01_prime.f 16 = some (I primeD) by decide +kernel) j
theorem take_val {l : List Nat} {i n : Nat} (h : l[i]? = some n) : valD (l.take (i + 1)) = valD (l.take i) + 65536 ^ i * n := by
  induction l generalizing i with
  | nil => simp at h
  | cons a l ih =>
    cases i with
    | zero =>
      simp at h; subst h
      simp [valD]
    | succ i =>
      have := ih (i := i) (by simpa using h)
      show a + 65536 * valD (l.take (i + 1)) = a + 65536 * valD (l.take i) + 65536 ^ (i + 1) * n
      rw [this, Nat.pow_succ, Nat.mul_comm (65536 ^ i) 65536, Nat.mul_assoc]; omega
theorem take_lt {l : List Nat} (hl : ∀ d ∈ l, d < 65536) (i : Nat) (hi : i ≤ l.length) : valD (l.take i) < 65536 ^ i := by
  have := valD_lt (l.take i) (fun d hd => hl d (List.mem_of_mem_take hd))
  rwa [List.length_take, Nat.min_eq_left hi] at this
theorem leastS_l (l p : List Nat) (hl : l.length = 16) (hp : p.length = 16) (hdl : ∀ d ∈ l, d < 65536) (hdp : ∀ d ∈ p, d < 65536) : ∀ (k i : Nat), i ≤ 16 → i < k →
    PLimbTells.demurralref01_least.l0 k (I l) (I p) ((i : Int) - 1) = some (decide (valD (p.take i) ≤ valD (l.take i))) := by
  intro k
  induction k with
  | zero => intro i _ h; omega
  | succ k ih =>
    intro i hi hk
    unfold PLimbTells.demurralref01_least.l0
    cases i with
    | zero => rw [if_neg (by omega)]; simp
    | succ i =>
      have h1 : i < l.length := by omega
      have h2 : i < p.length := by omega
      have e1 := List.getElem?_eq_getElem h1
      have e2 := List.getElem?_eq_getElem h2
      have b1 := take_lt hdl i (by omega)
      have b2 := take_lt hdp i (by omega)
      generalize l[i] = n at e1
      generalize p[i] = q at e2
      have ei : ((i + 1 : Nat) : Int) - 1 = (i : Int) := by omega
      rw [ei, if_pos (by omega), if_pos (by omega), if_pos (by rw [I_len]; omega), if_pos (by rw [I_len]; omega), I_rd e1, I_rd e2, wr (n := (i : Int) - 1) (by omega), ih i (by omega) (by omega), take_val e1, take_val e2]
      by_cases h : n = q
      · subst h
        rw [if_pos rfl]
        congr 1
        exact decide_eq_decide.2 (by omega)
      · rw [if_neg (by omega)]
        congr 1
        refine decide_eq_decide.2 ?_
        by_cases hlt : q < n
        · have := Nat.mul_le_mul_left (65536 ^ i) (show q + 1 ≤ n from hlt)
          rw [Nat.mul_add, Nat.mul_one] at this
          generalize 65536 ^ i * n = X at *
          generalize 65536 ^ i * q = Y at *
          omega
        · have := Nat.mul_le_mul_left (65536 ^ i) (show n + 1 ≤ q by omega)
          rw [Nat.mul_add, Nat.mul_one] at this
          generalize 65536 ^ i * n = X at *
          generalize 65536 ^ i * q = Y at *
          omega
theorem prime_lt : ∀ d ∈ primeD, d < 65536 := by decide
theorem leastS (l : List Nat) (hl : l.length = 16) (hdl : ∀ d ∈ l, d < 65536) (k : Nat) (hk : 17 ≤ k) : PLimbTells.demurralref01_least.f k (I l) = some (decide (P25 ≤ valD l)) := by
  unfold PLimbTells.demurralref01_least.f
  rw [primeS k (by omega), Option.bind_some]
  have := leastS_l l primeD hl rfl hdl prime_lt k 16 (by omega) (by omega)
  rw [List.take_of_length_le (l := primeD) (by decide), List.take_of_length_le (l := l) (by omega), valD_prime] at this
  exact this
def les : List Nat → List Nat → Nat → List Nat × Nat
  | a :: l, p :: q, b => ((a + 65536 - p - b) % 65536 :: (les l q (1 - (a + 65536 - p - b) / 65536)).1, (les l q (1 - (a + 65536 - p - b) / 65536)).2)
  | _, _, b => ([], b)
theorem les_len : ∀ (l p : List Nat) (b : Nat), l.length = p.length → (les l p b).1.length = l.length
  | [], [], _, _ => rfl
  | a :: l, p :: q, b, h => by show (les l q _).1.length + 1 = _; rw [les_len l q _ (by simpa using h)]; rfl
  | [], _ :: _, _, h => by simp at h
  | _ :: _, [], _, h => by simp at h
theorem les_lt : ∀ (l p : List Nat) (b : Nat), ∀ d ∈ (les l p b).1, d < 65536
  | [], _, _, d, h => by simp [les] at h
  | _ :: _, [], _, d, h => by simp [les] at h
  | a :: l, p :: q, b, d, h => by
    rcases List.mem_cons.1 h with h | h
    · subst h; exact Nat.mod_lt _ (by decide)
    · exact les_lt l q _ d h
theorem les_val : ∀ (l p : List Nat) (b : Nat), l.length = p.length → (∀ d ∈ l, d < 65536) → (∀ d ∈ p, d < 65536) → b ≤ 1 →
    valD (les l p b).1 + valD p + b = valD l + 65536 ^ l.length * (les l p b).2 ∧ (les l p b).2 ≤ 1
  | [], [], b, _, _, _, hb => by simp [les, valD]; omega
  | [], _ :: _, _, h, _, _, _ => by simp at h
  | _ :: _, [], _, h, _, _, _ => by simp at h
  | a :: l, p :: q, b, h, h1, h2, hb => by
    have a1 := h1 a List.mem_cons_self
    have a2 := h2 p List.mem_cons_self
    obtain ⟨ih, ih2⟩ := les_val l q (1 - (a + 65536 - p - b) / 65536) (by simpa using h) (fun d hd => h1 d (List.mem_cons_of_mem _ hd)) (fun d hd => h2 d (List.mem_cons_of_mem _ hd)) (by omega)
    refine ⟨?_, ih2⟩
    show (a + 65536 - p - b) % 65536 + 65536 * valD (les l q (1 - (a + 65536 - p - b) / 65536)).1 + (p + 65536 * valD q) + b = a + 65536 * valD l + 65536 ^ (l.length + 1) * (les l q (1 - (a + 65536 - p - b) / 65536)).2
    rw [Nat.pow_succ, Nat.mul_comm (65536 ^ l.length) 65536, Nat.mul_assoc]
    generalize 65536 ^ l.length * (les l q (1 - (a + 65536 - p - b) / 65536)).2 = X at *
    omega
theorem lessS_l (l p : List Nat) (hl : l.length = 16) (hp : p.length = 16) (hdl : ∀ d ∈ l, d < 65536) (hdp : ∀ d ∈ p, d < 65536) : ∀ (k i b : Nat) (acc : List Nat), i ≤ 16 → 16 - i < k → acc.length ≤ i → b ≤ 1 →
    PLimbTells.demurralref01_less.l0 k (I l) (I p) (I acc) b i = some (I (acc ++ (les (l.drop i) (p.drop i) b).1)) := by
  intro k
  induction k with
  | zero => intro i b acc _ h; omega
  | succ k ih =>
    intro i b acc hi hk ha hb
    unfold PLimbTells.demurralref01_less.l0
    by_cases hlt : i < 16
    · have h1 : i < l.length := by omega
      have h2 : i < p.length := by omega
      have e1 := List.getElem?_eq_getElem h1
      have e2 := List.getElem?_eq_getElem h2
      have b1 := hdl _ (List.getElem_mem h1)
      have b2 := hdp _ (List.getElem_mem h2)
      rw [List.drop_eq_getElem_cons h1, List.drop_eq_getElem_cons h2]
      generalize l[i] = n at e1 b1
      generalize p[i] = q at e2 b2
      have en : wrap64 (wrap64 (wrap64 (rd (I l) (i : Int) - rd (I p) (i : Int)) - (b : Int)) + 65536) = ((n + 65536 - q - b : Nat) : Int) := by
        rw [I_rd e1, I_rd e2, wr (n := (n : Int) - q) (by omega), wr (n := (n : Int) - q - b) (by omega), wr (by omega)]
        omega
      rw [if_pos (by omega), if_pos (by omega), if_pos (by rw [I_len]; omega), if_pos (by rw [I_len]; omega), if_pos (by rw [I_len]; omega), en, tm, td, wr (n := (i : Int) + 1) (by omega), wr (n := (((n + 65536 - q - b) / 65536 : Nat) : Int)) (by omega), wr (by omega)]
      have := ih (i + 1) (1 - (n + 65536 - q - b) / 65536) (acc ++ [(n + 65536 - q - b) % 65536]) (by omega) (by omega) (by simp; omega) (by omega)
      rw [I_app] at this
      rw [show ((i : Int) + 1) = ((i + 1 : Nat) : Int) by omega, show (1 : Int) - (((n + 65536 - q - b) / 65536 : Nat) : Int) = ((1 - (n + 65536 - q - b) / 65536 : Nat) : Int) by omega]
      rw [show [(((n + 65536 - q - b) % 65536 : Nat) : Int)] = I [(n + 65536 - q - b) % 65536] from rfl, this]
      simp only [les, List.append_assoc, List.singleton_append]
    · rw [if_neg (by omega), List.drop_eq_nil_of_le (by omega)]
      simp [les]
theorem lessS (v : Nat) (hv : v < 65536 ^ 16) (hP : P25 ≤ v) (k : Nat) (hk : 17 ≤ k) : PLimbTells.demurralref01_less.f k (I (digs 16 v)) = some (I (digs 16 (v - P25))) := by
  unfold PLimbTells.demurralref01_less.f
  rw [primeS k (by omega), Option.bind_some]
  have := lessS_l (digs 16 v) primeD (digs_len _ _) rfl (digs_lt _ _) prime_lt k 0 0 [] (by omega) (by omega) (by simp) (by omega)
  rw [List.drop_zero, List.drop_zero, List.nil_append] at this
  refine this.trans ?_
  obtain ⟨h1, h2⟩ := les_val (digs 16 v) primeD 0 (digs_len _ _) (digs_lt _ _) prime_lt (by omega)
  have h3 := valD_lt _ (les_lt (digs 16 v) primeD 0)
  have h4 := les_len (digs 16 v) primeD 0 (digs_len _ _)
  rw [h4, digs_len] at h3
  rw [valD_digs, Nat.mod_eq_of_lt hv, digs_len, valD_prime] at h1
  have h5 := digs_valD _ (les_lt (digs 16 v) primeD 0)
  rw [h4, digs_len] at h5
  have hu : valD (les (digs 16 v) primeD 0).1 = v - P25 := by
    generalize (les (digs 16 v) primeD 0).2 = b at *
    generalize valD (les (digs 16 v) primeD 0).1 = u at *
    clear h5
    generalize 65536 ^ 16 = M at *
    generalize P25 = P at *
    rcases Nat.eq_zero_or_pos b with hb | hb
    · subst hb; simp at h1; omega
    · have : b = 1 := by omega
      subst this; simp at h1; omega
  rw [← h5, hu]
theorem M16 : (65536 : Nat) ^ 16 = 2 * P25 + 38 := by decide +kernel
theorem P25_pos : 38 < P25 := by decide +kernel
theorem P25_big : 100000000000000 < P25 := by decide +kernel
theorem Left1S (v : Nat) (hv : v < 65536 ^ 16) (k : Nat) (hk : 21 ≤ k) : PLimbTells.demurralref01_Left.l1 k (I (digs 16 v)) = some (I (digs 16 (v % P25))) := by
  have hM := M16
  have hP := P25_pos
  have step : ∀ (v k : Nat), v < 65536 ^ 16 → 17 ≤ k → PLimbTells.demurralref01_Left.l1 (k + 1) (I (digs 16 v)) = if P25 ≤ v then PLimbTells.demurralref01_Left.l1 k (I (digs 16 (v - P25))) else some (I (digs 16 v)) := by
    intro v k hv hk
    show (PLimbTells.demurralref01_least.f k (I (digs 16 v))).bind _ = _
    rw [leastS (digs 16 v) (digs_len _ _) (digs_lt _ _) k hk, Option.bind_some, valD_digs, Nat.mod_eq_of_lt hv]
    by_cases h : P25 ≤ v
    · rw [if_pos h, if_pos (decide_eq_true h), lessS v hv h k hk, Option.bind_some]
    · rw [if_neg h, if_neg (by rw [decide_eq_false h]; decide)]
  obtain ⟨j, rfl⟩ : ∃ j, k = j + 1 + 1 + 1 := ⟨k - 3, by omega⟩
  rw [step v (j + 1 + 1) hv (by omega)]
  by_cases h1 : P25 ≤ v
  · rw [if_pos h1, step (v - P25) (j + 1) (by omega) (by omega), Nat.mod_eq_sub_mod h1]
    by_cases h2 : P25 ≤ v - P25
    · rw [if_pos h2, step (v - P25 - P25) j (by omega) (by omega), Nat.mod_eq_sub_mod h2, if_neg (by omega), Nat.mod_eq_of_lt (by omega)]
    · rw [if_neg h2, Nat.mod_eq_of_lt (by omega)]
  · rw [if_neg h1, Nat.mod_eq_of_lt (by omega)]
theorem set0 (n : Nat) (l : List Nat) (m : Nat) : (I (n :: l)).set (0 : Int).toNat (m : Int) = I (m :: l) := rfl
theorem Left0S (v o : Nat) (hv : v < 65536 ^ 16) (ho : o < 2199023255552) (k : Nat) (hk : 40 ≤ k) : PLimbTells.demurralref01_Left.l0 k (I (digs 16 v)) o = some (I (digs 16 ((v + 65536 ^ 16 * o) % P25))) := by
  have hM := M16
  have hP := P25_pos
  have step : ∀ (v o k : Nat), v < 65536 ^ 16 → o < 2199023255552 → 30 ≤ k → 0 < o → ∃ v' o' : Nat, v' < 65536 ^ 16 ∧ o' < 2199023255552 ∧ v' + 65536 ^ 16 * o' = v + 38 * o ∧ PLimbTells.demurralref01_Left.l0 (k + 1) (I (digs 16 v)) o = PLimbTells.demurralref01_Left.l0 k (I (digs 16 v')) o' := by
    intro v o k hv ho hk hp
    have hlen := digs_len 16 v
    have hlt := digs_lt 16 v
    have hval := valD_digs 16 v
    rw [Nat.mod_eq_of_lt hv] at hval
    generalize digs 16 v = ds at *
    match ds, hlen with
    | d :: l, hlen =>
      have hd := hlt d List.mem_cons_self
      have hb : ∀ x ∈ (d + 38 * o) :: l, x < 72057594037927936 := fun x hx => by
        rcases List.mem_cons.1 hx with h | h
        · omega
        · have := hlt x (List.mem_cons_of_mem _ h); omega
      have hl2 : ((d + 38 * o) :: l).length = 16 := by simpa using hlen
      have c1 := car_len ((d + 38 * o) :: l) 0
      have c2 := car_val ((d + 38 * o) :: l) 0
      have c3 := car_lt ((d + 38 * o) :: l) 0
      have c4 := car_over ((d + 38 * o) :: l) 0 hb (by omega)
      have c5 := carryS ((d + 38 * o) :: l) (by omega) (fun x hx => by have := hb x hx; omega) k (by omega)
      have e1 : wrap64 (rd (I (d :: l)) 0 + wrap64 (38 * (o : Int))) = ((d + 38 * o : Nat) : Int) := by
        rw [show rd (I (d :: l)) 0 = (d : Int) from rfl, wr (n := 38 * (o : Int)) (by omega), wr (by omega)]; omega
      have c6 := digs_valD _ c3
      have c7 := valD_lt _ c3
      rw [c1, hl2] at c6 c7
      rw [hl2] at c2
      refine ⟨valD (car ((d + 38 * o) :: l) 0).1, (car ((d + 38 * o) :: l) 0).2, c7, c4, ?_, ?_⟩
      · have : valD ((d + 38 * o) :: l) = valD (d :: l) + 38 * o := by show d + 38 * o + 65536 * valD l = d + 65536 * valD l + 38 * o; omega
        rw [c2, this, hval]; omega
      · rw [c6]
        show (if (o : Int) > 0 then _ else _) = _
        rw [if_pos (by omega), if_pos (by rw [I_len]; omega), e1, set0, c5, Option.bind_some]
  have done : ∀ (v k : Nat), v < 65536 ^ 16 → 30 ≤ k → PLimbTells.demurralref01_Left.l0 k (I (digs 16 v)) (0 : Nat) = some (I (digs 16 (v % P25))) := by
    intro v k hv hk
    obtain ⟨j, rfl⟩ : ∃ j, k = j + 1 := ⟨k - 1, by omega⟩
    show (if ((0 : Nat) : Int) > 0 then _ else _) = _
    rw [if_neg (by omega)]
    exact Left1S v hv j (by omega)
  have modc : ∀ v o : Nat, (v + 65536 ^ 16 * o) % P25 = (v + 38 * o) % P25 := by
    intro v o
    rw [hM, Nat.add_mul, Nat.mul_comm 2 P25, Nat.mul_assoc, Nat.add_comm (P25 * (2 * o)), ← Nat.add_assoc, Nat.add_mul_mod_self_left]
  obtain ⟨j, rfl⟩ : ∃ j, k = j + 1 + 1 + 1 := ⟨k - 3, by omega⟩
  rcases Nat.eq_zero_or_pos o with h0 | h0
  · subst h0
    rw [done v _ hv (by omega)]; simp
  · have hbig := P25_big
    obtain ⟨v1, o1, a1, a2, a3, a4⟩ := step v o (j + 1 + 1) hv ho (by omega) h0
    have b1 : o1 ≤ 1 := by
      generalize 65536 ^ 16 = M at *
      refine Nat.le_of_not_lt (fun h => ?_)
      have := Nat.mul_le_mul_left M (show 2 ≤ o1 from h)
      have : 38 * o < M := by omega
      omega
    rw [a4, modc v o, ← a3, modc v1 o1]
    rcases Nat.eq_zero_or_pos o1 with h1 | h1
    · subst h1
      rw [done v1 _ a1 (by omega)]; simp
    · obtain rfl : o1 = 1 := by omega
      obtain ⟨v2, o2, c1, c2, c3, c4⟩ := step v1 1 (j + 1) a1 (by omega) (by omega) (by omega)
      have b2 : o2 = 0 := by
        rcases Nat.eq_zero_or_pos o2 with h | h
        · exact h
        · have := Nat.mul_le_mul_left (65536 ^ 16) (show 1 ≤ o2 from h)
          generalize 65536 ^ 16 * o2 = X at *
          omega
      subst b2
      rw [c4, ← c3, done v2 _ c1 (by omega)]; simp
/-- Left leaves the value modulo the prime. -/
theorem LeftS (l : List Nat) (hl : l.length = 16) (hb : ∀ d ∈ l, d < 72057594037927936) (k : Nat) (hk : 40 ≤ k) : PLimbTells.demurralref01_Left.f k (I l) = some (I (digs 16 (valD l % P25))) := by
  unfold PLimbTells.demurralref01_Left.f
  have c2 := car_val l 0
  have c3 := car_lt l 0
  have c6 := digs_valD _ c3
  have c7 := valD_lt _ c3
  rw [car_len, hl] at c6 c7
  rw [hl] at c2
  rw [carryS l (by omega) (fun x hx => by have := hb x hx; omega) k (by omega), Option.bind_some]
  show PLimbTells.demurralref01_Left.l0 k (I (car l 0).1) ((car l 0).2 : Int) = _
  rw [← c6, Left0S _ _ c7 (car_over l 0 hb (by omega)) k hk, c2]; rfl
end Go.Proofs.Ytdmpnogjpgoaaaa

import Derived.Test.YtdmpnogjpgoaaaaLimbM3
namespace Go.Proofs.Ytdmpnogjpgoaaaa
open Go.RowKit Go.Proofs.YtdmpnogjpgoaaaaW.PrintWords Go.Proofs.YtdmpnogjpgoaaaaW.PrintLast Go.Proofs.YtdmpnogjpgoaaaaW.PrintMore
/-! ### products -/
def sm (f : Nat → Nat) : Nat → Nat
  | 0 => 0
  | n + 1 => sm f n + f n
theorem sm_congr {f g : Nat → Nat} : ∀ n : Nat, (∀ i, i < n → f i = g i) → sm f n = sm g n
  | 0, _ => rfl
  | n + 1, h => by show sm f n + f n = sm g n + g n; rw [sm_congr n (fun i hi => h i (by omega)), h n (by omega)]
theorem sm_mod {f g : Nat → Nat} (P : Nat) : ∀ n : Nat, (∀ i, i < n → f i % P = g i % P) → sm f n % P = sm g n % P
  | 0, _ => rfl
  | n + 1, h => by show (sm f n + f n) % P = (sm g n + g n) % P; rw [Nat.add_mod, sm_mod P n (fun i hi => h i (by omega)), h n (by omega), ← Nat.add_mod]
theorem sm_add (f g : Nat → Nat) : ∀ n : Nat, sm (fun i => f i + g i) n = sm f n + sm g n
  | 0 => rfl
  | n + 1 => by show sm _ n + (f n + g n) = sm f n + f n + (sm g n + g n); rw [sm_add f g n]; omega
theorem sm_mul (c : Nat) (f : Nat → Nat) : ∀ n : Nat, sm (fun i => c * f i) n = c * sm f n
  | 0 => rfl
  | n + 1 => by show sm _ n + c * f n = c * (sm f n + f n); rw [sm_mul c f n, Nat.mul_add]
theorem sm_swap (f : Nat → Nat → Nat) (m : Nat) : ∀ n : Nat, sm (fun i => sm (fun j => f i j) m) n = sm (fun j => sm (fun i => f i j) n) m
  | 0 => by
    show 0 = sm (fun _ => 0) m
    induction m with
    | zero => rfl
    | succ m ih => show 0 = sm (fun _ => 0) m + 0; rw [← ih]
  | n + 1 => by
    show sm _ n + sm (fun j => f n j) m = sm (fun j => sm (fun i => f i j) n + f n j) m
    rw [sm_swap f m n, sm_add]
theorem sm_split (f : Nat → Nat) (m : Nat) : ∀ n : Nat, sm f (m + n) = sm f m + sm (fun t => f (m + t)) n
  | 0 => rfl
  | n + 1 => by show sm f (m + n) + f (m + n) = sm f m + (sm _ n + f (m + n)); rw [sm_split f m n]; omega
theorem valD_app (x : Nat) : ∀ l : List Nat, valD (l ++ [x]) = valD l + 65536 ^ l.length * x
  | [] => by simp [valD]
  | a :: l => by
    show a + 65536 * valD (l ++ [x]) = a + 65536 * valD l + 65536 ^ (l.length + 1) * x
    rw [valD_app x l, Nat.pow_succ, Nat.mul_comm (65536 ^ l.length) 65536, Nat.mul_assoc]; omega
theorem valD_range (f : Nat → Nat) : ∀ n : Nat, valD ((List.range n).map f) = sm (fun i => 65536 ^ i * f i) n
  | 0 => rfl
  | n + 1 => by
    rw [List.range_succ, List.map_append, List.map_singleton, valD_app, valD_range f n, List.length_map, List.length_range]; rfl
theorem valD_sm : ∀ l : List Nat, valD l = sm (fun i => 65536 ^ i * l.getD i 0) l.length := fun l => by
  have h := valD_range (fun i => l.getD i 0) l.length
  rw [← h]
  congr 1
  refine List.ext_getElem (by simp) (fun i h1 h2 => ?_)
  simp [List.getD_eq_getElem?_getD, List.getElem?_eq_getElem h1]
/-- One product of a row: digit j of a, for digit i. -/
def mc (a b : List Nat) (i j : Nat) : Nat := if j ≤ i then a.getD j 0 * b.getD (i - j) 0 else 38 * a.getD j 0 * b.getD (16 + i - j) 0
def rowM (a b : List Nat) (i : Nat) : Nat := sm (mc a b i) 16
theorem col_mod (a b : List Nat) (hb : b.length = 16) (j : Nat) (hj : j < 16) : sm (fun i => 65536 ^ i * mc a b i j) 16 % P25 = 65536 ^ j * a.getD j 0 * valD b % P25 := by
  rw [valD_sm b, hb, ← sm_mul]
  rw [show (16 : Nat) = j + (16 - j) by omega, sm_split]
  rw [show j + (16 - j) = (16 - j) + j by omega, sm_split _ (16 - j) j, Nat.add_comm (sm _ (16 - j))]
  rw [Nat.add_mod, Nat.add_mod (sm _ j) (sm _ (16 - j))]
  congr 2
  · refine sm_mod P25 j (fun i hi => ?_)
    unfold mc
    rw [if_neg (by omega), show 16 + i - j = 16 - j + i by omega]
    generalize a.getD j 0 = x
    generalize b.getD (16 - j + i) 0 = y
    have e : 65536 ^ j * x * (65536 ^ (16 - j + i) * y) = 65536 ^ 16 * (65536 ^ i * (x * y)) := by
      have : 65536 ^ j * 65536 ^ (16 - j + i) = 65536 ^ 16 * 65536 ^ i := by rw [← Nat.pow_add, ← Nat.pow_add]; congr 1; omega
      calc 65536 ^ j * x * (65536 ^ (16 - j + i) * y) = (65536 ^ j * 65536 ^ (16 - j + i)) * (x * y) := by ac_rfl
        _ = _ := by rw [this]; ac_rfl
    rw [e, M16, Nat.add_mul, Nat.mul_comm 2 P25, Nat.mul_assoc P25, Nat.mul_add_mod]
    congr 1
    ac_rfl
  · congr 1
    refine sm_congr _ (fun t ht => ?_)
    unfold mc
    rw [if_pos (by omega), show j + t - j = t by omega, Nat.pow_add]
    ac_rfl
theorem mul_mod' (a b : List Nat) (ha : a.length = 16) (hb : b.length = 16) : valD ((List.range 16).map (rowM a b)) % P25 = valD a * valD b % P25 := by
  rw [valD_range]
  have h1 : sm (fun i => 65536 ^ i * rowM a b i) 16 = sm (fun j => sm (fun i => 65536 ^ i * mc a b i j) 16) 16 := by
    rw [← sm_swap]
    refine sm_congr _ (fun i _ => ?_)
    unfold rowM
    rw [← sm_mul]
  rw [h1, sm_mod P25 16 (fun j hj => col_mod a b hb j hj)]
  have h2 : sm (fun j => 65536 ^ j * a.getD j 0 * valD b) 16 = valD a * valD b := by
    rw [valD_sm a, ha, Nat.mul_comm, ← sm_mul]
    exact sm_congr _ (fun i _ => Nat.mul_comm _ _)
  rw [h2]
theorem getD_lt {l : List Nat} (h : ∀ d ∈ l, d < 65536) (i : Nat) : l.getD i 0 < 65536 := by
  rw [List.getD_eq_getElem?_getD]
  cases e : l[i]? with
  | none => simp
  | some x => exact h x (List.mem_of_getElem? e)
theorem mc_le {a b : List Nat} (ha : ∀ d ∈ a, d < 65536) (hb : ∀ d ∈ b, d < 65536) (i j : Nat) : mc a b i j ≤ 163203776550 := by
  have hx := getD_lt ha j
  unfold mc
  split
  · have hy := getD_lt hb (i - j)
    have := Nat.mul_le_mul (show a.getD j 0 ≤ 65535 by omega) (show b.getD (i - j) 0 ≤ 65535 by omega)
    omega
  · have hy := getD_lt hb (16 + i - j)
    have := Nat.mul_le_mul (show 38 * a.getD j 0 ≤ 38 * 65535 by omega) (show b.getD (16 + i - j) 0 ≤ 65535 by omega)
    omega
theorem sm_le {f : Nat → Nat} {c : Nat} (h : ∀ i, f i ≤ c) : ∀ n : Nat, sm f n ≤ n * c
  | 0 => by simp [sm]
  | n + 1 => by
    have := sm_le h n
    have := h n
    show sm f n + f n ≤ _
    rw [Nat.add_mul]; omega
theorem I_rdD {l : List Nat} {i : Nat} (h : i < l.length) : rd (I l) (i : Int) = ((l.getD i 0 : Nat) : Int) := by
  rw [I_rd (List.getElem?_eq_getElem h), List.getD_eq_getElem?_getD, List.getElem?_eq_getElem h]; rfl
theorem mulS_1 (a b : List Nat) (ha : a.length = 16) (hb : b.length = 16) (hda : ∀ d ∈ a, d < 65536) (hdb : ∀ d ∈ b, d < 65536) (acc : List Nat) (hacc : acc.length ≤ 16) (i : Nat) (hi : i < 16) (k : Nat) :
    ∀ (t j : Nat), j + t = 16 → PLimbTells.demurralref01_Mul.l1 (k + t + 1) (I a) (I b) (I acc) i (sm (mc a b i) j : Nat) j = PLimbTells.demurralref01_Mul.l0 k (I a) (I b) (I (acc ++ [rowM a b i])) ((i + 1 : Nat) : Int) := by
  intro t
  induction t with
  | zero =>
    intro j hj
    obtain rfl : j = 16 := by omega
    unfold PLimbTells.demurralref01_Mul.l1
    rw [if_neg (by omega), if_pos (by rw [I_len]; omega), wr (by omega), I_app]
    rfl
  | succ t ih =>
    intro j hj
    have hs := sm_le (mc_le hda hdb i) j
    have hc := mc_le hda hdb i j
    have hjl := Nat.mul_le_mul_right 163203776550 (show j ≤ 16 by omega)
    have hx := getD_lt hda j
    rw [show k + (t + 1) + 1 = (k + t + 1) + 1 by omega]
    unfold PLimbTells.demurralref01_Mul.l1
    rw [if_pos (by omega), wr (n := (j : Int) + 1) (by omega), show (j : Int) + 1 = ((j + 1 : Nat) : Int) by omega]
    rw [← ih (j + 1) (by omega)]
    rw [show sm (mc a b i) (j + 1) = sm (mc a b i) j + mc a b i j from rfl]
    have hsz : sm (mc a b i) j ≤ 2611260424800 := by omega
    by_cases hji : j ≤ i
    · have hm : mc a b i j = a.getD j 0 * b.getD (i - j) 0 := if_pos hji
      rw [hm] at hc ⊢
      rw [if_pos (by omega), if_pos (by omega), if_pos (by rw [I_len]; omega), wr (n := (i : Int) - j) (by omega), show (i : Int) - j = ((i - j : Nat) : Int) by omega, if_pos (by omega), if_pos (by rw [I_len]; omega), I_rdD (by omega), I_rdD (by omega)]
      generalize sm (mc a b i) j = X at *
      generalize a.getD j 0 = x at *
      generalize b.getD (i - j) 0 = y at *
      rw [← Int.natCast_mul, wr (n := ((x * y : Nat) : Int)) (by omega), wr (by omega), ← Int.natCast_add]
    · have hm : mc a b i j = 38 * a.getD j 0 * b.getD (16 + i - j) 0 := if_neg hji
      rw [hm] at hc ⊢
      rw [if_neg (by omega), if_pos (by omega), if_pos (by rw [I_len]; omega), wr (n := (16 : Int) + i) (by omega), wr (n := (16 : Int) + i - j) (by omega), show (16 : Int) + i - j = ((16 + i - j : Nat) : Int) by omega, if_pos (by omega), if_pos (by rw [I_len]; omega), I_rdD (by omega), I_rdD (by omega)]
      generalize sm (mc a b i) j = X at *
      generalize a.getD j 0 = x at *
      generalize b.getD (16 + i - j) 0 = y at *
      rw [wr (n := 38 * (x : Int)) (by omega), show 38 * (x : Int) = ((38 * x : Nat) : Int) by omega, ← Int.natCast_mul, wr (n := ((38 * x * y : Nat) : Int)) (by omega), wr (by omega), ← Int.natCast_add]
theorem mulS_0 (a b : List Nat) (ha : a.length = 16) (hb : b.length = 16) (hda : ∀ d ∈ a, d < 65536) (hdb : ∀ d ∈ b, d < 65536) :
    ∀ (t i : Nat), i + t = 16 → PLimbTells.demurralref01_Mul.l0 (41 + 18 * t) (I a) (I b) (I ((List.range i).map (rowM a b))) i = some (I (digs 16 (valD a * valD b % P25))) := by
  intro t
  induction t with
  | zero =>
    intro i hi
    obtain rfl : i = 16 := by omega
    show (if ((16 : Nat) : Int) < 16 then PLimbTells.demurralref01_Mul.l1 40 (I a) (I b) (I ((List.range 16).map (rowM a b))) ((16 : Nat) : Int) 0 0 else (PLimbTells.demurralref01_Left.f 40 (I ((List.range 16).map (rowM a b)))).bind fun t => some t) = _
    rw [if_neg (by omega), LeftS _ (by simp) ?_ 40 (by omega), Option.bind_some, mul_mod' a b ha hb]
    intro d hd
    obtain ⟨i, _, rfl⟩ := List.mem_map.1 hd
    have := sm_le (mc_le hda hdb i) 16
    unfold rowM
    omega
  | succ t ih =>
    intro i hi
    rw [show 41 + 18 * (t + 1) = (41 + 18 * t + 16 + 1) + 1 by omega]
    show (if (i : Int) < 16 then PLimbTells.demurralref01_Mul.l1 (41 + 18 * t + 16 + 1) (I a) (I b) (I ((List.range i).map (rowM a b))) i 0 0 else (PLimbTells.demurralref01_Left.f (41 + 18 * t + 16 + 1) (I ((List.range i).map (rowM a b)))).bind fun t => some t) = _
    rw [if_pos (by omega)]
    have := mulS_1 a b ha hb hda hdb ((List.range i).map (rowM a b)) (by simp; omega) i (by omega) (41 + 18 * t) 16 0 (by omega)
    refine this.trans ?_
    have h2 := ih (i + 1) (by omega)
    rw [List.range_succ, List.map_append, List.map_singleton] at h2
    exact h2
theorem mulS (u v : Nat) (hu : u < 65536 ^ 16) (hv : v < 65536 ^ 16) (k : Nat) (hk : 329 ≤ k) : PLimbTells.demurralref01_Mul.f k (I (digs 16 u)) (I (digs 16 v)) = some (I (digs 16 (u * v % P25))) := by
  obtain ⟨j, rfl⟩ := Nat.exists_eq_add_of_le hk
  refine liftO (fun k => PLimbTells.demurralref01_Mul.mono _ _ k) ?_ j
  have := mulS_0 (digs 16 u) (digs 16 v) (digs_len _ _) (digs_len _ _) (digs_lt _ _) (digs_lt _ _) 16 0 (by omega)
  rw [valD_digs, valD_digs, Nat.mod_eq_of_lt hu, Nat.mod_eq_of_lt hv] at this
  exact this
end Go.Proofs.Ytdmpnogjpgoaaaa

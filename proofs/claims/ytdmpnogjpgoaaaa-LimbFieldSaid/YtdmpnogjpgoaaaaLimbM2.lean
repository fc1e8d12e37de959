import Derived.Test.YtdmpnogjpgoaaaaLimbM1
namespace Go.Proofs.Ytdmpnogjpgoaaaa
open Go.RowKit Go.Proofs.YtdmpnogjpgoaaaaW.PrintWords Go.Proofs.YtdmpnogjpgoaaaaW.PrintLast Go.Proofs.YtdmpnogjpgoaaaaW.PrintMore
/-! ### bytes -/
def valB : List Nat → Nat
  | [] => 0
  | n :: l => n + 256 * valB l
def byts : Nat → Nat → List Nat
  | 0, _ => []
  | n + 1, v => v % 256 :: byts n (v / 256)
def bytesOf (s : ByteArray) : List Nat := s.data.toList.map (fun b => b.toNat)
/-- A text's number, the lowest byte first. -/
def leV (s : ByteArray) : Nat := valB (bytesOf s)
/-- A number's text of 32 bytes. -/
def textV (v : Nat) : ByteArray := strOfNums (I (byts 32 v))
theorem bytesOf_len (s : ByteArray) : (bytesOf s).length = s.size := by
  show (List.map _ s.data.toList).length = s.data.size
  rw [List.length_map, Array.length_toList]
theorem bytesOf_lt (s : ByteArray) : ∀ d ∈ bytesOf s, d < 256 := by
  intro d hd
  obtain ⟨b, _, rfl⟩ := List.mem_map.1 hd
  exact UInt8.toNat_lt b
theorem bt_eq (s : ByteArray) (i n : Nat) (h : (bytesOf s)[i]? = some n) : bt s (i : Int) = (n : Int) := by
  unfold bytesOf at h
  rw [List.getElem?_map] at h
  obtain ⟨b, hb, rfl⟩ := Option.map_eq_some_iff.1 h
  obtain ⟨hl, rfl⟩ := List.getElem?_eq_some_iff.1 hb
  have hl' : i < s.size := by rw [Array.length_toList] at hl; exact hl
  unfold bt
  rw [show ((i : Int)).toNat = i from rfl, dif_pos hl']
  rfl
theorem byts_len : ∀ n v : Nat, (byts n v).length = n
  | 0, _ => rfl
  | n + 1, v => by show (byts n _).length + 1 = _; rw [byts_len]
theorem byts_lt : ∀ (n v : Nat), ∀ d ∈ byts n v, d < 256
  | 0, _, d, h => by simp [byts] at h
  | n + 1, v, d, h => by
    rcases List.mem_cons.1 h with h | h
    · subst h; exact Nat.mod_lt _ (by decide)
    · exact byts_lt n _ d h
theorem valB_byts : ∀ n v : Nat, valB (byts n v) = v % 256 ^ n
  | 0, v => by simp [byts, valB, Nat.mod_one]
  | n + 1, v => by
    show v % 256 + 256 * valB (byts n (v / 256)) = _
    rw [valB_byts n, Nat.pow_succ, Nat.mul_comm (256 ^ n), Nat.mod_mul]
theorem byts_valB : ∀ (l : List Nat), (∀ d ∈ l, d < 256) → byts l.length (valB l) = l
  | [], _ => rfl
  | n :: l, h => by
    have h2 := h n List.mem_cons_self
    show (n + 256 * valB l) % 256 :: byts l.length ((n + 256 * valB l) / 256) = n :: l
    rw [show (n + 256 * valB l) % 256 = n by omega, show (n + 256 * valB l) / 256 = valB l by omega, byts_valB l (fun d hd => h d (List.mem_cons_of_mem _ hd))]
theorem valB_lt : ∀ (l : List Nat), (∀ d ∈ l, d < 256) → valB l < 256 ^ l.length
  | [], _ => by simp [valB]
  | n :: l, h => by
    have h1 := valB_lt l (fun d hd => h d (List.mem_cons_of_mem _ hd))
    have h2 := h n List.mem_cons_self
    show n + 256 * valB l < 256 ^ (l.length + 1)
    rw [Nat.pow_succ]; omega
theorem textV_size (v : Nat) : (textV v).size = 32 := by unfold textV; rw [strOfNums_size, I_len, byts_len]
theorem bytesOf_textV (v : Nat) : bytesOf (textV v) = byts 32 v := by
  unfold bytesOf textV
  rw [strOfNums_data]
  unfold I
  rw [List.map_map, List.map_map]
  refine (List.map_congr_left (g := id) (fun n hn => ?_)).trans (List.map_id _)
  have := byts_lt 32 v n hn
  show (UInt8.ofNat ((n : Int)).toNat).toNat = n
  rw [Int.toNat_natCast, UInt8.toNat_ofNat_of_lt' this]
theorem leV_textV (v : Nat) : leV (textV v) = v % 256 ^ 32 := by unfold leV; rw [bytesOf_textV, valB_byts]
theorem leV_lt (s : ByteArray) (h : s.size = 32) : leV s < 256 ^ 32 := by
  have := valB_lt _ (bytesOf_lt s)
  rwa [bytesOf_len, h] at this
/-! ### pairs of bytes are digits -/
def pairs : List Nat → List Nat
  | a :: b :: l => (a + 256 * b) :: pairs l
  | _ => []
def unpair (l : List Nat) : List Nat := l.flatMap fun d => [d % 256, d / 256 % 256]
theorem pairs_byts : ∀ n v : Nat, pairs (byts (2 * n) v) = digs n v
  | 0, _ => rfl
  | n + 1, v => by
    show pairs (v % 256 :: v / 256 % 256 :: byts (2 * n) (v / 256 / 256)) = v % 65536 :: digs n (v / 65536)
    show (v % 256 + 256 * (v / 256 % 256)) :: pairs (byts (2 * n) (v / 256 / 256)) = _
    rw [pairs_byts n, Nat.div_div_eq_div_mul]
    congr 1; omega
theorem unpair_digs : ∀ n v : Nat, unpair (digs n v) = byts (2 * n) v
  | 0, _ => rfl
  | n + 1, v => by
    show [v % 65536 % 256, v % 65536 / 256 % 256] ++ unpair (digs n (v / 65536)) = v % 256 :: v / 256 % 256 :: byts (2 * n) (v / 256 / 256)
    rw [unpair_digs n, Nat.div_div_eq_div_mul, show v % 65536 % 256 = v % 256 by omega, show v % 65536 / 256 % 256 = v / 256 % 256 by omega]; rfl
theorem digs_of_text (s : ByteArray) (h : s.size = 32) : pairs (bytesOf s) = digs 16 (leV s) := by
  have := byts_valB _ (bytesOf_lt s)
  rw [bytesOf_len, h] at this
  rw [← this, pairs_byts 16]; rfl
theorem pairs_drop {l : List Nat} {i a b : Nat} (ha : l[2 * i]? = some a) (hb : l[2 * i + 1]? = some b) : pairs (l.drop (2 * i)) = (a + 256 * b) :: pairs (l.drop (2 * (i + 1))) := by
  obtain ⟨h1, rfl⟩ := List.getElem?_eq_some_iff.1 ha
  obtain ⟨h2, rfl⟩ := List.getElem?_eq_some_iff.1 hb
  rw [List.drop_eq_getElem_cons h1, List.drop_eq_getElem_cons h2]; rfl
theorem digitsS_l (s : ByteArray) (h : s.size = 32) : ∀ (k i : Nat) (acc : List Nat), i ≤ 16 → 16 - i < k → acc.length ≤ i →
    PLimbTells.demurralref01_Digits.l0 k s (I acc) i = some (I (acc ++ pairs ((bytesOf s).drop (2 * i)))) := by
  have hlen := bytesOf_len s
  have hlt := bytesOf_lt s
  intro k
  induction k with
  | zero => intro i acc _ h; omega
  | succ k ih =>
    intro i acc hi hk ha
    unfold PLimbTells.demurralref01_Digits.l0
    by_cases hlt' : i < 16
    · have h1 : 2 * i < (bytesOf s).length := by omega
      have h2 : 2 * i + 1 < (bytesOf s).length := by omega
      have e1 := List.getElem?_eq_getElem h1
      have e2 := List.getElem?_eq_getElem h2
      have b1 := hlt _ (List.getElem_mem h1)
      have b2 := hlt _ (List.getElem_mem h2)
      generalize (bytesOf s)[2 * i] = a at e1 b1
      generalize (bytesOf s)[2 * i + 1] = b at e2 b2
      have w1 : wrap64 (2 * (i : Int)) = ((2 * i : Nat) : Int) := by rw [wr (by omega)]; omega
      have w2 : wrap64 (((2 * i : Nat) : Int) + 1) = ((2 * i + 1 : Nat) : Int) := by rw [wr (by omega)]; omega
      rw [if_pos (by omega), w1, w2, if_pos (by omega), if_pos (by omega), if_pos (by omega), if_pos (by omega), if_pos (by rw [I_len]; omega), bt_eq s _ _ e1, bt_eq s _ _ e2, wr (n := (i : Int) + 1) (by omega)]
      rw [wr (n := (a : Int)) (by omega), wr (n := (b : Int)) (by omega), wr (n := 256 * (b : Int)) (by omega), wr (n := (a : Int) + 256 * b) (by omega)]
      have := ih (i + 1) (acc ++ [a + 256 * b]) (by omega) (by omega) (by simp; omega)
      rw [I_app] at this
      rw [show ((i : Int) + 1) = ((i + 1 : Nat) : Int) by omega, show ((a : Int) + 256 * b) = ((a + 256 * b : Nat) : Int) by omega]
      rw [show [((a + 256 * b : Nat) : Int)] = I [a + 256 * b] from rfl, this, pairs_drop e1 e2]
      simp
    · rw [if_neg (by omega), List.drop_eq_nil_of_le (by omega)]
      simp [pairs]
theorem digitsS (s : ByteArray) (h : s.size = 32) (k : Nat) (hk : 17 ≤ k) : PLimbTells.demurralref01_Digits.f k s = some (I (digs 16 (leV s))) := by
  unfold PLimbTells.demurralref01_Digits.f
  have := digitsS_l s h k 0 [] (by omega) (by omega) (by simp)
  rw [← digs_of_text s h]
  exact this
theorem textS_l (l : List Nat) (hl : l.length ≤ 1000) (hb : ∀ d ∈ l, d < 65536) : ∀ (k i : Nat) (acc : List Nat), i ≤ l.length → l.length - i < k → acc.length ≤ 2 * i →
    PLimbTells.demurralref01_Text.l0 k (I acc) (I l) l.length i = some (strOfNums (I (acc ++ unpair (l.drop i)))) := by
  intro k
  induction k with
  | zero => intro i acc _ h; omega
  | succ k ih =>
    intro i acc hi hk ha
    unfold PLimbTells.demurralref01_Text.l0
    by_cases hlt : i < l.length
    · have hp := List.getElem?_eq_getElem hlt
      rw [List.drop_eq_getElem_cons hlt]
      have hb1 := hb _ (List.getElem_mem hlt)
      generalize l[i] = n at hp hb1
      rw [if_pos (by omega), if_pos (by omega), if_pos (by rw [I_len]; omega), I_rd hp]
      rw [show Int.tmod (n : Int) 256 = ((n % 256 : Nat) : Int) from rfl, show Int.tdiv (n : Int) 256 = ((n / 256 : Nat) : Int) from rfl, wr (n := ((n / 256 : Nat) : Int)) (by omega), wr (n := (i : Int) + 1) (by omega)]
      rw [show (((n % 256 : Nat) : Int)) % 256 = ((n % 256 : Nat) : Int) by omega, show (((n / 256 : Nat) : Int)) % 256 = ((n / 256 % 256 : Nat) : Int) by omega, Option.bind_some, if_pos (by rw [I_len]; simp; omega)]
      have := ih (i + 1) (acc ++ [n % 256, n / 256 % 256]) (by omega) (by omega) (by simp; omega)
      rw [I_app] at this
      rw [show ((i : Int) + 1) = ((i + 1 : Nat) : Int) by omega]
      rw [show [(((n % 256 : Nat)) : Int), ((n / 256 % 256 : Nat) : Int)] = I [n % 256, n / 256 % 256] from rfl, this]
      simp [unpair]
    · rw [if_neg (by omega), List.drop_eq_nil_of_le (by omega)]
      simp [unpair]
theorem textS (v : Nat) (k : Nat) (hk : 17 ≤ k) : PLimbTells.demurralref01_Text.f k (I (digs 16 v)) = some (textV v) := by
  unfold PLimbTells.demurralref01_Text.f
  have := textS_l (digs 16 v) (by rw [digs_len]; omega) (digs_lt _ _) k 0 [] (by omega) (by rw [digs_len]; omega) (by simp)
  rw [I_len]
  rw [List.drop_zero, List.nil_append, unpair_digs] at this
  exact this
/-! ### sums -/
def addL (a b : List Nat) : List Nat := List.zipWith (· + ·) a b
theorem addL_val : ∀ a b : List Nat, a.length = b.length → valD (addL a b) = valD a + valD b
  | [], [], _ => rfl
  | [], _ :: _, h => by simp at h
  | _ :: _, [], h => by simp at h
  | x :: a, y :: b, h => by
    have := addL_val a b (by simpa using h)
    show x + y + 65536 * valD (addL a b) = x + 65536 * valD a + (y + 65536 * valD b)
    omega
theorem addL_get {a b : List Nat} {i x y : Nat} (ha : a[i]? = some x) (hb : b[i]? = some y) : (addL a b).drop i = (x + y) :: (addL a b).drop (i + 1) := by
  obtain ⟨h1, rfl⟩ := List.getElem?_eq_some_iff.1 ha
  obtain ⟨h2, rfl⟩ := List.getElem?_eq_some_iff.1 hb
  rw [List.drop_eq_getElem_cons (by unfold addL; rw [List.length_zipWith]; omega)]
  simp [addL]
theorem addS_l (a b : List Nat) (ha : a.length = 16) (hb : b.length = 16) (hda : ∀ d ∈ a, d < 65536) (hdb : ∀ d ∈ b, d < 65536) : ∀ (k i : Nat) (acc : List Nat), i ≤ 16 → 60 - i < k → acc.length ≤ i → acc ++ (addL a b).drop i = addL a b →
    PLimbTells.demurralref01_Add.l0 k (I a) (I b) (I acc) (16 : Nat) i = some (I (digs 16 ((valD a + valD b) % P25))) := by
  intro k
  induction k with
  | zero => intro i acc _ h; omega
  | succ k ih =>
    intro i acc hi hk hacc he
    unfold PLimbTells.demurralref01_Add.l0
    by_cases hlt : i < 16
    · have h1 : i < a.length := by omega
      have h2 : i < b.length := by omega
      have e1 := List.getElem?_eq_getElem h1
      have e2 := List.getElem?_eq_getElem h2
      have b1 := hda _ (List.getElem_mem h1)
      have b2 := hdb _ (List.getElem_mem h2)
      generalize a[i] = x at e1 b1
      generalize b[i] = y at e2 b2
      rw [if_pos (by omega), if_pos (by omega), if_pos (by rw [I_len]; omega), if_pos (by rw [I_len]; omega), if_pos (by rw [I_len]; omega), I_rd e1, I_rd e2, wr (n := (x : Int) + y) (by omega), wr (n := (i : Int) + 1) (by omega)]
      have := ih (i + 1) (acc ++ [x + y]) (by omega) (by omega) (by simp; omega) (by rw [addL_get e1 e2] at he; rw [List.append_assoc]; exact he)
      rw [I_app] at this
      rw [show ((i : Int) + 1) = ((i + 1 : Nat) : Int) by omega, show ((x : Int) + y) = ((x + y : Nat) : Int) by omega]
      exact this
    · rw [if_neg (by omega)]
      have hl : (addL a b).length = 16 := by unfold addL; rw [List.length_zipWith]; omega
      rw [List.drop_eq_nil_of_le (by omega), List.append_nil] at he
      rw [he, LeftS _ hl ?_ k (by omega), Option.bind_some, addL_val a b (by omega)]
      intro d hd
      unfold addL at hd
      obtain ⟨j, hj, rfl⟩ := List.mem_iff_getElem.1 hd
      rw [List.length_zipWith] at hj
      have c1 := hda _ (List.getElem_mem (show j < a.length by omega))
      have c2 := hdb _ (List.getElem_mem (show j < b.length by omega))
      simp only [List.getElem_zipWith]
      omega
theorem addS (u v : Nat) (hu : u < 65536 ^ 16) (hv : v < 65536 ^ 16) (k : Nat) (hk : 61 ≤ k) : PLimbTells.demurralref01_Add.f k (I (digs 16 u)) (I (digs 16 v)) = some (I (digs 16 ((u + v) % P25))) := by
  unfold PLimbTells.demurralref01_Add.f
  have := addS_l (digs 16 u) (digs 16 v) (digs_len _ _) (digs_len _ _) (digs_lt _ _) (digs_lt _ _) k 0 [] (by omega) (by omega) (by simp) (by simp)
  rw [valD_digs, valD_digs, Nat.mod_eq_of_lt hu, Nat.mod_eq_of_lt hv] at this
  rw [I_len, digs_len]
  exact this
end Go.Proofs.Ytdmpnogjpgoaaaa

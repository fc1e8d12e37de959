import Derived.Test.YtdmpnogjpgoaaaaMe
import Derived.Laws.CopyOwn
import Derived.Lib.ConvBytes
import Derived.Test.YtdmpnogjpgoaaaaMc
import Derived.RangeFuncNested
import Derived.RangeFuncBound
import Derived.RangeFuncCalls
import Derived.OrdersIn
import Derived.RangeFuncLeaves
import Derived.Shelf.Abstract
import Derived.Shelf.RegionOpen
import Derived.WalkKit
import Derived.OwnWalkIn
import Derived.TacticsInMore
import Derived.LoopNIn
import Derived.LoopIn
set_option linter.unusedSimpArgs false
/-! The ladder's small functions. -/
namespace Go.Proofs.Ytdmpnogjpgoaaaa
open Go.RowKit Go.Proofs.YtdmpnogjpgoaaaaW.PrintWords Go.Proofs.YtdmpnogjpgoaaaaW.PrintLast Go.Proofs.YtdmpnogjpgoaaaaW.PrintMore
/-- the text of a number modulo 2^255 - 19 -/
def S25 (x : F25) : ByteArray := textV x.val
theorem S25_size (x : F25) : (S25 x).size = 32 := textV_size _
theorem S25_isT (x : F25) : IsT (S25 x) x.val := ⟨S25_size x, by unfold S25; rw [leV_textV, Nat.mod_eq_of_lt (Nat.lt_trans x.isLt P25_256)]⟩
theorem T_S25 (n : Nat) (x : F25) (h : n % P25 = x.val) : T n = S25 x := by unfold T S25; rw [h]
theorem S25_leV (x : F25) : leV (S25 x) = x.val := by unfold S25; rw [leV_textV, Nat.mod_eq_of_lt (Nat.lt_trans x.isLt P25_256)]
theorem S25_inj {x y : F25} (h : S25 x = S25 y) : x = y := Fin.ext (by rw [← S25_leV, h, S25_leV])
attribute [local irreducible] Calls
theorem ladAdd (x y : F25) (w : World) : Calls Try.prog 113 #[.string (S25 x), .string (S25 y)] w fun e w' => e = .returned (.string (S25 (x + y))) ∧ Below w.heap.size w w' := by
  have h := fun W => AddT W (S25_isT x) (S25_isT y)
  rw [T_S25 _ (x + y) rfl] at h
  have H := Lib.hid h
  clear h
  go_enter Try.func113, Try.ntmps113
  go_wp2_with (go_at_call 19; refine (H.out _).mono ?_; rintro e w1 ⟨rfl, hb⟩)
  go_ret
  exact ⟨rfl, hb⟩
theorem ladSub (x y : F25) (w : World) : Calls Try.prog 114 #[.string (S25 x), .string (S25 y)] w fun e w' => e = .returned (.string (S25 (x - y))) ∧ Below w.heap.size w w' := by
  have h := fun W => SubT W (S25_isT x) (S25_isT y)
  rw [T_S25 _ (x - y) (by rw [sub_val25, Nat.mod_eq_of_lt x.isLt, Nat.mod_eq_of_lt y.isLt])] at h
  have H := Lib.hid h
  clear h
  go_enter Try.func114, Try.ntmps114
  go_wp2_with (go_at_call 20; refine (H.out _).mono ?_; rintro e w1 ⟨rfl, hb⟩)
  go_ret
  exact ⟨rfl, hb⟩
theorem ladMul (x y : F25) (w : World) : Calls Try.prog 90 #[.string (S25 x), .string (S25 y)] w fun e w' => e = .returned (.string (S25 (x * y))) ∧ Below w.heap.size w w' := by
  have h := fun W => MulT W (S25_isT x) (S25_isT y)
  rw [T_S25 _ (x * y) rfl] at h
  have H := Lib.hid h
  clear h
  go_enter Try.func90, Try.ntmps90
  go_wp2_with (go_at_call 21; refine (H.out _).mono ?_; rintro e w1 ⟨rfl, hb⟩)
  go_ret
  exact ⟨rfl, hb⟩
/-! ### number -/
def pad32 (l : List Nat) : List Nat := l ++ List.replicate (32 - l.length) 0
theorem valB_zeros : ∀ n : Nat, valB (List.replicate n 0) = 0
  | 0 => rfl
  | n + 1 => by show 0 + 256 * valB (List.replicate n 0) = 0; rw [valB_zeros n]
theorem valB_pad (l : List Nat) (n : Nat) : valB (l ++ List.replicate n 0) = valB l := by
  induction l with
  | nil => exact valB_zeros n
  | cons a l ih => show a + 256 * valB (l ++ _) = a + 256 * valB l; rw [ih]
theorem pad_byts (l : List Nat) (hl : l.length ≤ 32) (hb : ∀ x ∈ l, x < 256) : pad32 l = byts 32 (valB l) := by
  have h := byts_valB (pad32 l) (fun d hd => by
    rcases List.mem_append.1 hd with h | h
    · exact hb d h
    · rw [(List.mem_replicate.1 h).2]; decide)
  unfold pad32 at *
  rw [valB_pad, List.length_append, List.length_replicate, show l.length + (32 - l.length) = 32 by omega] at h
  exact h.symm
def u8s (l : List Nat) : List Value := l.map (fun n : Nat => Value.int .u8 n)
theorem convB (l : List Nat) (hl : l.length ≤ 1000) (b c : Nat) (W : World) (h : W.heap[b]? = some (.cells (u8s l).toArray 5 (0, 0))) : (convert 63 9 (.slice (some ⟨b, 0, none⟩) l.length c)).run Try.prog W = .ok (.string (strOfNums (I l))) W := by
  refine string_of_reads (xs := I l) Try.underlying63 Try.underlying5 Try.underlying9 ?_
  refine ⟨I_len l, by omega, fun _ => ⟨_, rfl, fun j hj => ?_⟩⟩
  rw [add_plain, blk_cell h]
  unfold u8s I
  rw [List.getElem?_toArray, List.getElem?_map, List.getElem?_eq_getElem hj]
  simp [List.getD_eq_getElem?_getD, List.getElem?_eq_getElem hj]
theorem splice_pad (l : List Nat) : splice (mk32 0 0) 0 (u8s l) = u8s (pad32 l) := by
  unfold splice u8s pad32 mk32
  rw [List.take_zero, List.take_zero, List.map_nil, List.nil_append, List.nil_append, List.map_append, List.length_map, List.map_replicate, Nat.zero_add, List.drop_replicate, Nat.sub_zero]
  rfl
attribute [local go_sem high] make32
set_option maxHeartbeats 1000000 in
set_option maxRecDepth 100000 in
theorem number_any (l : List Nat) (hl : l.length ≤ 32) (hb : ∀ x ∈ l, x < 256) (sp : Option Addr) (c : Nat) (w : World)
    (hsrc : 0 < l.length → ∃ g, sp = some ⟨g, 0, none⟩ ∧ w.heap[g]? = some (.cells (u8s l).toArray 5 (0, 0))) :
    Calls Try.prog 86 #[.slice sp l.length c] w fun e w' => e = .returned (.string (textV (valB l))) ∧ Below w.heap.size w w' := by
  have hconv := Lib.hid (convB (pad32 l) (by unfold pad32; simp; omega))
  have hpl : (pad32 l).length = 32 := by unfold pad32; simp; omega
  have hres : strOfNums (I (pad32 l)) = textV (valB l) := by unfold textV; rw [pad_byts l hl hb]
  have hlen : (u8s l).length = Nat.min l.length 32 := by unfold u8s; rw [List.length_map]; exact (Nat.min_eq_left hl).symm
  have hul : (u8s l).length = l.length := by unfold u8s; rw [List.length_map]
  have hone : ∀ v ∈ u8s l, v.oneCell' = true := by
    intro v hv
    obtain ⟨x, _, rfl⟩ := List.mem_map.1 hv
    rfl
  have hm : (mk32 0 0).length = 32 := rfl
  have HL := Lib.hid hl
  have HRes := Lib.hid hres
  have HLen := Lib.hid hlen
  have HUl := Lib.hid hul
  have HOne := Lib.hid hone
  have HSrc := Lib.hid hsrc
  have HPl := Lib.hid hpl
  have Hm := Lib.hid hm
  clear hres hlen hul hone hsrc hb hpl hl hm
  go_enter Try.func86, Try.ntmps86
  go_wp2_with ((with_reducible refine wpList_copy_splice rfl (.tmp 5) (.tmp 6) 63 63 rfl 5 Try.underlying63 (by kernel_rfl) (some ⟨w.heap.size, 0, none⟩) sp 32 32 l.length c rfl rfl w.heap.size 0 (mk32 0 0) 5 (heap_alloc_new _ _) (u8s l) HLen.out ?pos (by rw [HUl.out, Hm.out]; have := HL.out; omega) HOne.out w.heap.size w (below_alloc (Below.refl _ _) _) (Nat.le_refl _) ?_); (case pos => (intro h0; rw [HUl.out] at h0; obtain ⟨g, e1, e2⟩ := HSrc.out h0; refine ⟨rfl, _, e1, fun j v hj => ?_⟩; rw [add_plain]; have hc := blk_cell (blk_alloc e2 (.cells (mk32 0 0).toArray 5)) j; rw [List.getElem?_toArray, hj] at hc; exact hc)); intro w1 hw1 hb1)
  have hw := hw1.out
  rw [splice_pad l] at hw
  have hcv := hconv.out _ 32 _ hw
  rw [HPl.out, HRes.out] at hcv
  clear hw
  go_wp2
  rw [hcv]
  go_wp2
  go_ret
  exact ⟨rfl, hb1⟩
end Go.Proofs.Ytdmpnogjpgoaaaa

set_option linter.unusedSimpArgs false
/-! []byte(s): a row of bytes of the call's own, with what lies behind it. -/
namespace Go.Proofs.Ytdmpnogjpgoaaaa
open Go.RowKit Go.Proofs.YtdmpnogjpgoaaaaW.PrintWords Go.Proofs.YtdmpnogjpgoaaaaW.PrintLast Go.Proofs.YtdmpnogjpgoaaaaW.PrintMore
structure ByteRow (w : World) (g : Nat) (l : List Nat) : Prop where
  out : ∃ tail fr, w.heap[g]? = some (.cells (u8s l ++ tail).toArray 5 fr) ∧ l.length ≤ fr.1
theorem u8s_get {l : List Nat} {j n : Nat} (tail : List Value) (h : l[j]? = some n) : (u8s l ++ tail).toArray[j]? = some (.int .u8 (n : Nat)) := by
  have hj := (List.getElem?_eq_some_iff.1 h).1
  rw [List.getElem?_toArray, List.getElem?_append_left (by unfold u8s; rw [List.length_map]; exact hj)]
  unfold u8s
  rw [List.getElem?_map, h]; rfl
theorem ByteRow.cell {w : World} {g : Nat} {l : List Nat} (h : ByteRow w g l) {j n : Nat} (hj : l[j]? = some n) : w.cell? ⟨g, j, none⟩ = some (.int .u8 (n : Nat)) := by
  obtain ⟨tail, fr, h, _⟩ := h.out
  simp only [World.cell?, h]
  exact u8s_get tail hj
theorem ByteRow.frozen {w : World} {g : Nat} {l : List Nat} (h : ByteRow w g l) {j : Nat} (hj : j < l.length) : w.frozen? ⟨g, j, none⟩ = false := by
  obtain ⟨tail, fr, h, hf⟩ := h.out
  simp only [World.frozen?, h]
  simp
  omega
theorem ByteRow.lt {w : World} {g : Nat} {l : List Nat} (h : ByteRow w g l) : g < w.heap.size := by
  obtain ⟨tail, fr, h, _⟩ := h.out
  exact (Array.getElem?_eq_some_iff.1 h).1
theorem ByteRow.up {w w1 : World} {g : Nat} {l : List Nat} (h : ByteRow w g l) (hb : Below w.heap.size w w1) : ByteRow w1 g l := by
  have hl := h.lt
  obtain ⟨tail, fr, h, hf⟩ := h.out
  exact ⟨tail, fr, (hb.block g hl).trans h, hf⟩
theorem ByteRow.far {w : World} {g : Nat} {l : List Nat} (h : ByteRow w g l) {p : Addr} (v : Value) (hp : g ≠ p.block) : ByteRow (w.setCell p v) g l := by
  obtain ⟨tail, fr, h, hf⟩ := h.out
  exact ⟨tail, fr, (Below.heap_setCell w p v g hp).trans h, hf⟩
theorem ByteRow.set {w : World} {g : Nat} {l : List Nat} (h : ByteRow w g l) (j n : Nat) (hj : j < l.length) : ByteRow (w.setCell ⟨g, j, none⟩ (.int .u8 (n : Nat))) g (l.set j n) := by
  obtain ⟨tail, fr, h, hf⟩ := h.out
  refine ⟨tail, fr, ?_, by rw [List.length_set]; exact hf⟩
  have : (u8s l ++ tail).set j (.int .u8 (n : Nat)) = u8s (l.set j n) ++ tail := by
    rw [List.set_append_left _ _ (by unfold u8s; rw [List.length_map]; exact hj)]
    unfold u8s
    rw [List.map_set]
  simp [World.setCell, Array.getElem?_modify, h]
  exact this
theorem ByteRow.conv {w : World} {g : Nat} {l : List Nat} (h : ByteRow w g l) (hl : l.length ≤ 9223372036854775807) (c : Nat) : (convert 63 9 (.slice (some ⟨g, 0, none⟩) l.length c)).run Try.prog w = .ok (.string (strOfNums (I l))) w := by
  refine string_of_reads (xs := I l) Try.underlying63 Try.underlying5 Try.underlying9 ?_
  refine ⟨I_len l, hl, fun _ => ⟨_, rfl, fun j hj => ?_⟩⟩
  rw [add_plain, h.cell (List.getElem?_eq_getElem hj)]
  unfold I
  simp [List.getD_eq_getElem?_getD, List.getElem?_eq_getElem hj]
section
variable {ops : Array Oper} {rest : List Oper} {o : Oper} {a : Act} {w : World} {Q : Exit → Act → World → Prop}
/-- []byte(s) in a plain region. -/
theorem wpList_bytes (hgd : o.guard = none) (x : Operand) (ho : o.op = .convert 9 63 x) (s : ByteArray) (hx : a.eval x = .string s)
    (h : ∀ g c w1, g = w.heap.size → ByteRow w1 g (bytesOf s) → Below w.heap.size w w1 → wpList Try.prog ops Q rest (a.put o.dst (.slice (some ⟨g, 0, none⟩) (bytesOf s).length c)) w1) : wpList Try.prog ops Q (o :: rest) a w := by
  refine wpList_plain hgd fun K hK => ?_
  have hr := Lib.run_convert_string_bytes (P := Try.prog) w 9 63 5 s Try.underlying9 Try.underlying63 Try.underlying5
  have hrun : (execOp a.eval o).run Try.prog w = .ok (.value (.slice (some ⟨w.heap.size, 0, none⟩) s.size (grownCap w s.size 0 5))) (Lib.bytesWorld w 5 s) := by
    unfold execOp
    simp [ho, hx, hr, Result.andThen]
  unfold Oper.wp
  rw [hrun]
  refine hK _ _ ?_
  have hrow : ByteRow (Lib.bytesWorld w 5 s) w.heap.size (bytesOf s) := by
    refine ⟨List.replicate (grownCap w s.size 0 5 - s.size) (.int .u8 0), ((Lib.bytesCells w 5 s).size, (Lib.bytesCells w 5 s).size + 1), (Lib.bytesWorld_at_new w 5 s).trans ?_, ?_⟩
    · have e : Lib.bytesCells w 5 s = (u8s (bytesOf s) ++ List.replicate (grownCap w s.size 0 5 - s.size) (Value.int .u8 0)).toArray := by
        unfold Lib.bytesCells u8s bytesOf
        apply Array.ext'
        simp [Function.comp_def]
      rw [← e]
    · rw [bytesOf_len]
      unfold Lib.bytesCells
      have : s.data.size = s.size := rfl
      simp [this]
  have := h w.heap.size (grownCap w s.size 0 5) (Lib.bytesWorld w 5 s) rfl hrow ⟨rfl, rfl, rfl, by rw [Lib.bytesWorld_size]; omega, fun k hk => Lib.bytesWorld_at_old w _ s k hk⟩
  rw [bytesOf_len] at this
  exact this
end
end Go.Proofs.Ytdmpnogjpgoaaaa

set_option linter.unusedSimpArgs false
namespace Go.Proofs.Ytdmpnogjpgoaaaa
open Go.RowKit Go.Proofs.YtdmpnogjpgoaaaaW.PrintWords Go.Proofs.YtdmpnogjpgoaaaaW.PrintLast Go.Proofs.YtdmpnogjpgoaaaaW.PrintMore
/-- the bytes of a clamped key -/
def clampL (l : List Nat) : List Nat := (l.set 0 (l.getD 0 0 / 8 * 8)).set 31 (l.getD 31 0 % 64 + 64)
def clampS (k : ByteArray) : ByteArray := strOfNums (I (clampL (bytesOf k)))
theorem andNot7 (n : Nat) (h : n < 256) : Go.bits .andNot .u8 (n : Int) 7 = ((n / 8 * 8 : Nat) : Int) := by
  have : ∀ n : Fin 256, Go.bits .andNot .u8 (n.val : Int) 7 = ((n.val / 8 * 8 : Nat) : Int) := by decide +kernel
  exact this ⟨n, h⟩
theorem and127 (n : Nat) (h : n < 256) : Go.bits .and .u8 (n : Int) 127 = ((n % 128 : Nat) : Int) := by
  have : ∀ n : Fin 256, Go.bits .and .u8 (n.val : Int) 127 = ((n.val % 128 : Nat) : Int) := by decide +kernel
  exact this ⟨n, h⟩
theorem or64 (n : Nat) (h : n < 256) : Go.bits .or .u8 ((n % 128 : Nat) : Int) 64 = ((n % 64 + 64 : Nat) : Int) := by
  have : ∀ n : Fin 256, Go.bits .or .u8 ((n.val % 128 : Nat) : Int) 64 = ((n.val % 64 + 64 : Nat) : Int) := by decide +kernel
  exact this ⟨n, h⟩
attribute [local irreducible] Calls
set_option maxHeartbeats 1000000 in
set_option maxRecDepth 100000 in
theorem clamp_any (k : ByteArray) (hk : k.size = 32) (w : World) :
    Calls Try.prog 85 #[.string k] w fun e w' => e = .returned (.string (clampS k)) ∧ Below w.heap.size w w' := by
  have hlen : (bytesOf k).length = 32 := by rw [bytesOf_len, hk]
  have hlt := bytesOf_lt k
  have hres : clampS k = strOfNums (I (((bytesOf k).set 0 ((bytesOf k).getD 0 0 / 8 * 8)).set 31 ((bytesOf k).getD 31 0 % 64 + 64))) := rfl
  obtain ⟨b0, h0⟩ : ∃ n, (bytesOf k)[0]? = some n := ⟨_, List.getElem?_eq_getElem (by omega)⟩
  obtain ⟨b31, h31⟩ : ∃ n, (bytesOf k)[31]? = some n := ⟨_, List.getElem?_eq_getElem (by omega)⟩
  have l0 := hlt b0 (List.mem_of_getElem? h0)
  have l31 := hlt b31 (List.mem_of_getElem? h31)
  rw [List.getD_eq_getElem?_getD, List.getD_eq_getElem?_getD, h0, h31, Option.getD_some, Option.getD_some] at hres
  have e1 := andNot7 b0 l0
  have e2 := and127 b31 l31
  have e3 := or64 b31 l31
  rw [show ((b31 % 128 : Nat) : Int) = (b31 : Int) % 128 by omega] at e3
  have H0 := Lib.hid h0
  have H31 := Lib.hid h31
  have HRes := Lib.hid hres
  have HLen := Lib.hid hlen
  clear hres h0 h31 hlt hk l0 l31 hlen
  go_enter Try.func85, Try.ntmps85
  go_wp2_with ((with_reducible refine wpList_bytes rfl (.tmp 4) rfl k rfl ?_); intro g c w1 hg HR hb; rw [HLen.out]; have Hge := Aside0.mk (Nat.le_of_eq hg.symm); have c0 := HR.cell H0.out; have f0 := HR.frozen (j := 0) (by rw [HLen.out]; omega); have c31 := HR.cell H31.out; have f31 := HR.frozen (j := 31) (by rw [HLen.out]; omega); clear hg)
  have hs1 : ((bytesOf k).set 0 (b0 / 8 * 8)).length = 32 := by rw [List.length_set, HLen.out]
  have hs2 : (((bytesOf k).set 0 (b0 / 8 * 8)).set 31 (b31 % 64 + 64)).length = 32 := by rw [List.length_set, hs1]
  have hcv := ((HR.set 0 (b0 / 8 * 8) (by rw [HLen.out]; omega)).set 31 (b31 % 64 + 64) (by rw [hs1]; omega)).conv (by rw [hs2]; omega) c
  rw [hs2, ← HRes.out, show ((b0 / 8 * 8 : Nat) : Int) = (b0 : Int) / 8 * 8 by omega, show ((b31 % 64 + 64 : Nat) : Int) = (b31 : Int) % 64 + 64 by omega] at hcv
  rw [hcv]
  go_wp2
  go_ret
  exact ⟨rfl, below_set (below_set hb Hge.out) Hge.out⟩
set_option maxHeartbeats 1000000 in
theorem Clamp_any (k : ByteArray) (hk : k.size = 32) (w : World) :
    Calls Try.prog 47 #[.string k] w fun e w' => e = .returned (.tuple #[.string (clampS k), .int .i64 0]) ∧ Below w.heap.size w w' := by
  have h1 : ((k.size : Int) != 32) = false := by rw [hk]; rfl
  have H := Lib.hid (clamp_any k hk)
  clear hk
  go_enter Try.func47, Try.ntmps47
  go_wp2_with (go_at_call 85; refine (H.out _).mono ?_; rintro e w1 ⟨rfl, hb⟩)
  go_ret2
  exact ⟨rfl, hb⟩
theorem Clamp_bad (k : ByteArray) (hk : k.size ≠ 32) (w : World) :
    Calls Try.prog 47 #[.string k] w fun e w' => e = .returned (.tuple #[.string ⟨#[]⟩, .int .i64 2]) ∧ Below w.heap.size w w' := by
  have h1 : ((k.size : Int) != 32) = true := by rw [bne_iff_ne]; omega
  clear hk
  go_enter Try.func47, Try.ntmps47
  go_wp2
  go_ret2
  exact ⟨rfl, Below.refl _ _⟩
theorem clampS_size (k : ByteArray) (hk : k.size = 32) : (clampS k).size = 32 := by
  unfold clampS clampL
  rw [strOfNums_size, I_len, List.length_set, List.length_set, bytesOf_len, hk]
end Go.Proofs.Ytdmpnogjpgoaaaa

set_option linter.unusedSimpArgs false
namespace Go.Proofs.Ytdmpnogjpgoaaaa
open Go.RowKit Go.Proofs.YtdmpnogjpgoaaaaW.PrintWords Go.Proofs.YtdmpnogjpgoaaaaW.PrintLast Go.Proofs.YtdmpnogjpgoaaaaW.PrintMore
/-- a rung as a value -/
def rungV (s : Ed.St P25) : Value := .agg #[.string (S25 s.x2), .string (S25 s.z2), .string (S25 s.x3), .string (S25 s.z3)]
attribute [local irreducible] Calls
set_option maxRecDepth 100000 in
theorem swapped_any (s : Ed.St P25) (b : Bool) (w : World) : Calls Try.prog 88 #[rungV s, .bool b] w fun e w' => e = .returned (rungV (if b then s.swap else s)) ∧ Below w.heap.size w w' := by
  have hu94 := Try.underlying94
  unfold rungV
  cases b
  · go_enter Try.func88, Try.ntmps88
    go_wp2
    exact bodyPost_ret (v := rungV s) (by simp [results, Try.results88, go_sem, rungV, *]) rfl ⟨rfl, below_alloc (below_alloc (Below.refl _ _) _) _⟩
  · go_enter Try.func88, Try.ntmps88
    go_wp2
    exact bodyPost_ret (v := rungV s.swap) (by simp [results, Try.results88, go_sem, rungV, Ed.St.swap, *]) rfl ⟨rfl, below_alloc (below_alloc (Below.refl _ _) _) _⟩
theorem number3 (w : World) (g : Nat) (h : w.heap[g]? = some (.cells #[.int .u8 65, .int .u8 219, .int .u8 1] 5 (0, 0))) : Calls Try.prog 86 #[.slice (some ⟨g, 0, none⟩) 3 3] w fun e w' => e = .returned (.string (S25 c25)) ∧ Below w.heap.size w w' := by
  have := number_any [0x41, 0xdb, 1] (by decide) (by decide) (some ⟨g, 0, none⟩) 3 w (fun _ => ⟨g, rfl, h⟩)
  have e : textV (valB [0x41, 0xdb, 1]) = S25 c25 := by unfold S25; exact congrArg textV (by decide +kernel)
  rw [e] at this
  exact this
set_option maxHeartbeats 4000000 in
set_option maxRecDepth 100000 in
theorem next_any (s : Ed.St P25) (u : F25) (w : World) : Calls Try.prog 89 #[rungV s, .string (S25 u)] w fun e w' => e = .returned (rungV (s.step c25 u)) ∧ Below w.heap.size w w' := by
  have hu94 := Try.underlying94
  unfold Ed.St.step rungV
  obtain ⟨x2, z2, x3, z3⟩ := s
  simp only []
  have HO := ((Own.start w).alloc (.cells #[.string (S25 x2), .string (S25 z2), .string (S25 x3), .string (S25 z3)] 94)).alloc' (.cells #[.string ⟨#[]⟩, .string ⟨#[]⟩, .string ⟨#[]⟩, .string ⟨#[]⟩] 94) (g := w.heap.size + 1) (by simp)
  go_enter Try.func89, Try.ntmps89
  go_wp2_with fail
  refine kstart (n := 12) (ds := []) #[false, false, false, false, false, false, false, false, false, false, false, false] (by kernel_rfl) rfl rfl ?_
  refine kpure (i := 0) (N := (some 14)) (v := ?_) (a' := ?_) #[true, false, false, false, false, false, false, false, false, false, false, false] rfl rfl (by kernel_rfl) (fun _ _ _ h => h) (Or.inl ⟨by rfl, ?_⟩) ?_ ?_  -- 0 fieldAddr 94 (tmp 2) 0
  rotate_left
  · intro w'; go_simp; with_reducible rfl
  rotate_left
  · simp only [Act.put, List.setIfInBounds_toArray, List.set_cons_zero, List.set_cons_succ, i64_w, i32_w]; rfl
  refine kpure (i := 2) (N := (some 16)) (v := ?_) (a' := ?_) #[true, false, true, false, false, false, false, false, false, false, false, false] rfl rfl (by kernel_rfl) (fun _ _ _ h => h) (Or.inl ⟨by rfl, ?_⟩) ?_ ?_  -- 2 fieldAddr 94 (tmp 2) 1
  rotate_left
  · intro w'; go_simp; with_reducible rfl
  rotate_left
  · simp only [Act.put, List.setIfInBounds_toArray, List.set_cons_zero, List.set_cons_succ, i64_w, i32_w]; rfl
  refine kpure (i := 5) (N := (some 19)) (v := ?_) (a' := ?_) #[true, false, true, false, false, true, false, false, false, false, false, false] rfl rfl (by kernel_rfl) (fun _ _ _ h => h) (Or.inl ⟨by rfl, ?_⟩) ?_ ?_  -- 5 fieldAddr 94 (tmp 2) 0
  rotate_left
  · intro w'; go_simp; with_reducible rfl
  rotate_left
  · simp only [Act.put, List.setIfInBounds_toArray, List.set_cons_zero, List.set_cons_succ, i64_w, i32_w]; rfl
  refine kpure (i := 7) (N := (some 21)) (v := ?_) (a' := ?_) #[true, false, true, false, false, true, false, true, false, false, false, false] rfl rfl (by kernel_rfl) (fun _ _ _ h => h) (Or.inl ⟨by rfl, ?_⟩) ?_ ?_  -- 7 fieldAddr 94 (tmp 2) 1
  rotate_left
  · intro w'; go_simp; with_reducible rfl
  rotate_left
  · simp only [Act.put, List.setIfInBounds_toArray, List.set_cons_zero, List.set_cons_succ, i64_w, i32_w]; rfl
  refine ktake (i := 1) (N := (some 15)) (v := ?_) (a' := ?_) #[true, true, true, false, false, true, false, true, false, false, false, false] rfl rfl (by kernel_rfl) (fun _ _ _ h => h) (Or.inl ⟨by rfl, fun w1 hg => ?_⟩) ?_ ?_  -- 1 load 9 (tmp 14)
  rotate_left
  · refine RunG_value ?_; have c0 := (HO.up hg).cell 1 rfl; go_simp; with_reducible rfl
  rotate_left
  · simp only [Act.put, List.setIfInBounds_toArray, List.set_cons_zero, List.set_cons_succ, i64_w, i32_w]; rfl
  refine ktake (i := 3) (N := (some 17)) (v := ?_) (a' := ?_) #[true, true, true, true, false, true, false, true, false, false, false, false] rfl rfl (by kernel_rfl) (fun _ _ _ h => h) (Or.inl ⟨by rfl, fun w1 hg => ?_⟩) ?_ ?_  -- 3 load 9 (tmp 16)
  rotate_left
  · refine RunG_value ?_; have c0 := (HO.up hg).cell 1 rfl; go_simp; with_reducible rfl
  rotate_left
  · simp only [Act.put, List.setIfInBounds_toArray, List.set_cons_zero, List.set_cons_succ, i64_w, i32_w]; rfl
  refine ktake (i := 4) (N := (some 18)) (v := .string (S25 (x2 + z2))) (a' := ?_) #[true, true, true, true, true, true, false, true, false, false, false, false] rfl rfl (by kernel_rfl) (fun _ _ _ h => h) (Or.inl ⟨by rfl, fun w1 hg => RunG_call Try.func113 (by kernel_rfl) rfl [.string (S25 x2), .string (S25 z2)] rfl (by rfl) (ladAdd x2 z2 _)⟩) ?_ ?_  -- 4 call { callee := value (func 113), args := #[tmp 15, tmp 17], argTypes := #[9, 9] }
  rotate_left
  · simp only [Act.put, List.setIfInBounds_toArray, List.set_cons_zero, List.set_cons_succ, i64_w, i32_w]; rfl
  refine ktake (i := 6) (N := (some 20)) (v := ?_) (a' := ?_) #[true, true, true, true, true, true, true, true, false, false, false, false] rfl rfl (by kernel_rfl) (fun _ _ _ h => h) (Or.inl ⟨by rfl, fun w1 hg => ?_⟩) ?_ ?_  -- 6 load 9 (tmp 19)
  rotate_left
  · refine RunG_value ?_; have c0 := (HO.up hg).cell 1 rfl; go_simp; with_reducible rfl
  rotate_left
  · simp only [Act.put, List.setIfInBounds_toArray, List.set_cons_zero, List.set_cons_succ, i64_w, i32_w]; rfl
  refine ktake (i := 8) (N := (some 22)) (v := ?_) (a' := ?_) #[true, true, true, true, true, true, true, true, true, false, false, false] rfl rfl (by kernel_rfl) (fun _ _ _ h => h) (Or.inl ⟨by rfl, fun w1 hg => ?_⟩) ?_ ?_  -- 8 load 9 (tmp 21)
  rotate_left
  · refine RunG_value ?_; have c0 := (HO.up hg).cell 1 rfl; go_simp; with_reducible rfl
  rotate_left
  · simp only [Act.put, List.setIfInBounds_toArray, List.set_cons_zero, List.set_cons_succ, i64_w, i32_w]; rfl
  refine ktake (i := 9) (N := (some 23)) (v := .string (S25 (x2 - z2))) (a' := ?_) #[true, true, true, true, true, true, true, true, true, true, false, false] rfl rfl (by kernel_rfl) (fun _ _ _ h => h) (Or.inl ⟨by rfl, fun w1 hg => RunG_call Try.func114 (by kernel_rfl) rfl [.string (S25 x2), .string (S25 z2)] rfl (by rfl) (ladSub x2 z2 _)⟩) ?_ ?_  -- 9 call { callee := value (func 114), args := #[tmp 20, tmp 22], argTypes := #[9, 9] }
  rotate_left
  · simp only [Act.put, List.setIfInBounds_toArray, List.set_cons_zero, List.set_cons_succ, i64_w, i32_w]; rfl
  refine kpure (i := 10) (N := (some 5)) (v := ?_) (a' := ?_) #[true, true, true, true, true, true, true, true, true, true, true, false] rfl rfl (by kernel_rfl) (fun _ _ _ h => h) (Or.inl ⟨by rfl, ?_⟩) ?_ ?_  -- 10 assign (tmp 18)
  rotate_left
  · intro w'; go_simp; with_reducible rfl
  rotate_left
  · simp only [Act.put, List.setIfInBounds_toArray, List.set_cons_zero, List.set_cons_succ, i64_w, i32_w]; rfl
  refine kpure (i := 11) (N := (some 6)) (v := ?_) (a' := ?_) #[true, true, true, true, true, true, true, true, true, true, true, true] rfl rfl (by kernel_rfl) (fun _ _ _ h => h) (Or.inl ⟨by rfl, ?_⟩) ?_ ?_  -- 11 assign (tmp 23)
  rotate_left
  · intro w'; go_simp; with_reducible rfl
  rotate_left
  · simp only [Act.put, List.setIfInBounds_toArray, List.set_cons_zero, List.set_cons_succ, i64_w, i32_w]; rfl
  refine kdone (by kernel_rfl) (fun w1 hg => ?_)
  replace HO := HO.up hg
  clear hg
  generalize hg1 : x2 + z2 = a at *
  generalize hg2 : x2 - z2 = b at *
  go_wp2_with (first | (go_at_call 90; refine (ladMul a a _).mono ?_; rintro e w1 ⟨rfl, hb⟩; replace HO := HO.up hb; clear hb) | (go_at_call 90; refine (ladMul b b _).mono ?_; rintro e w1 ⟨rfl, hb⟩; replace HO := HO.up hb; clear hb) | (go_at_call 114; refine (ladSub (a * a) (b * b) _).mono ?_; rintro e w1 ⟨rfl, hb⟩; replace HO := HO.up hb; clear hb))
  refine kstart (n := 16) (ds := []) #[false, false, false, false, false, false, false, false, false, false, false, false, false, false, false, false] (by kernel_rfl) rfl rfl ?_
  refine kpure (i := 0) (N := (some 33)) (v := ?_) (a' := ?_) #[true, false, false, false, false, false, false, false, false, false, false, false, false, false, false, false] rfl rfl (by kernel_rfl) (fun _ _ _ h => h) (Or.inl ⟨by rfl, ?_⟩) ?_ ?_  -- 0 fieldAddr 94 (tmp 2) 2
  rotate_left
  · intro w'; go_simp; with_reducible rfl
  rotate_left
  · simp only [Act.put, List.setIfInBounds_toArray, List.set_cons_zero, List.set_cons_succ, i64_w, i32_w]; rfl
  refine kpure (i := 2) (N := (some 35)) (v := ?_) (a' := ?_) #[true, false, true, false, false, false, false, false, false, false, false, false, false, false, false, false] rfl rfl (by kernel_rfl) (fun _ _ _ h => h) (Or.inl ⟨by rfl, ?_⟩) ?_ ?_  -- 2 fieldAddr 94 (tmp 2) 3
  rotate_left
  · intro w'; go_simp; with_reducible rfl
  rotate_left
  · simp only [Act.put, List.setIfInBounds_toArray, List.set_cons_zero, List.set_cons_succ, i64_w, i32_w]; rfl
  refine kpure (i := 5) (N := (some 38)) (v := ?_) (a' := ?_) #[true, false, true, false, false, true, false, false, false, false, false, false, false, false, false, false] rfl rfl (by kernel_rfl) (fun _ _ _ h => h) (Or.inl ⟨by rfl, ?_⟩) ?_ ?_  -- 5 move (tmp 5)
  rotate_left
  · intro w'; go_simp; with_reducible rfl
  rotate_left
  · simp only [Act.put, List.setIfInBounds_toArray, List.set_cons_zero, List.set_cons_succ, i64_w, i32_w]; rfl
  refine kpure (i := 7) (N := (some 40)) (v := ?_) (a' := ?_) #[true, false, true, false, false, true, false, true, false, false, false, false, false, false, false, false] rfl rfl (by kernel_rfl) (fun _ _ _ h => h) (Or.inl ⟨by rfl, ?_⟩) ?_ ?_  -- 7 fieldAddr 94 (tmp 2) 2
  rotate_left
  · intro w'; go_simp; with_reducible rfl
  rotate_left
  · simp only [Act.put, List.setIfInBounds_toArray, List.set_cons_zero, List.set_cons_succ, i64_w, i32_w]; rfl
  refine kpure (i := 9) (N := (some 42)) (v := ?_) (a' := ?_) #[true, false, true, false, false, true, false, true, false, true, false, false, false, false, false, false] rfl rfl (by kernel_rfl) (fun _ _ _ h => h) (Or.inl ⟨by rfl, ?_⟩) ?_ ?_  -- 9 fieldAddr 94 (tmp 2) 3
  rotate_left
  · intro w'; go_simp; with_reducible rfl
  rotate_left
  · simp only [Act.put, List.setIfInBounds_toArray, List.set_cons_zero, List.set_cons_succ, i64_w, i32_w]; rfl
  refine kpure (i := 12) (N := (some 45)) (v := ?_) (a' := ?_) #[true, false, true, false, false, true, false, true, false, true, false, false, true, false, false, false] rfl rfl (by kernel_rfl) (fun _ _ _ h => h) (Or.inl ⟨by rfl, ?_⟩) ?_ ?_  -- 12 move (tmp 6)
  rotate_left
  · intro w'; go_simp; with_reducible rfl
  rotate_left
  · simp only [Act.put, List.setIfInBounds_toArray, List.set_cons_zero, List.set_cons_succ, i64_w, i32_w]; rfl
  refine ktake (i := 1) (N := (some 34)) (v := ?_) (a' := ?_) #[true, true, true, false, false, true, false, true, false, true, false, false, true, false, false, false] rfl rfl (by kernel_rfl) (fun _ _ _ h => h) (Or.inl ⟨by rfl, fun w1 hg => ?_⟩) ?_ ?_  -- 1 load 9 (tmp 33)
  rotate_left
  · refine RunG_value ?_; have c0 := (HO.up hg).cell 1 rfl; go_simp; with_reducible rfl
  rotate_left
  · simp only [Act.put, List.setIfInBounds_toArray, List.set_cons_zero, List.set_cons_succ, i64_w, i32_w]; rfl
  refine ktake (i := 3) (N := (some 36)) (v := ?_) (a' := ?_) #[true, true, true, true, false, true, false, true, false, true, false, false, true, false, false, false] rfl rfl (by kernel_rfl) (fun _ _ _ h => h) (Or.inl ⟨by rfl, fun w1 hg => ?_⟩) ?_ ?_  -- 3 load 9 (tmp 35)
  rotate_left
  · refine RunG_value ?_; have c0 := (HO.up hg).cell 1 rfl; go_simp; with_reducible rfl
  rotate_left
  · simp only [Act.put, List.setIfInBounds_toArray, List.set_cons_zero, List.set_cons_succ, i64_w, i32_w]; rfl
  refine ktake (i := 4) (N := (some 37)) (v := .string (S25 (x3 - z3))) (a' := ?_) #[true, true, true, true, true, true, false, true, false, true, false, false, true, false, false, false] rfl rfl (by kernel_rfl) (fun _ _ _ h => h) (Or.inl ⟨by rfl, fun w1 hg => RunG_call Try.func114 (by kernel_rfl) rfl [.string (S25 x3), .string (S25 z3)] rfl (by rfl) (ladSub x3 z3 _)⟩) ?_ ?_  -- 4 call { callee := value (func 114), args := #[tmp 34, tmp 36], argTypes := #[9, 9] }
  rotate_left
  · simp only [Act.put, List.setIfInBounds_toArray, List.set_cons_zero, List.set_cons_succ, i64_w, i32_w]; rfl
  refine ktake (i := 6) (N := (some 39)) (v := .string (S25 ((x3 - z3) * a))) (a' := ?_) #[true, true, true, true, true, true, true, true, false, true, false, false, true, false, false, false] rfl rfl (by kernel_rfl) (fun _ _ _ h => h) (Or.inl ⟨by rfl, fun w1 hg => RunG_call Try.func90 (by kernel_rfl) rfl [.string (S25 (x3 - z3)), .string (S25 a)] rfl (by rfl) (ladMul (x3 - z3) a _)⟩) ?_ ?_  -- 6 call { callee := value (func 90), args := #[tmp 37, tmp 38], argTypes := #[9, 9] }
  rotate_left
  · simp only [Act.put, List.setIfInBounds_toArray, List.set_cons_zero, List.set_cons_succ, i64_w, i32_w]; rfl
  refine ktake (i := 8) (N := (some 41)) (v := ?_) (a' := ?_) #[true, true, true, true, true, true, true, true, true, true, false, false, true, false, false, false] rfl rfl (by kernel_rfl) (fun _ _ _ h => h) (Or.inl ⟨by rfl, fun w1 hg => ?_⟩) ?_ ?_  -- 8 load 9 (tmp 40)
  rotate_left
  · refine RunG_value ?_; have c0 := (HO.up hg).cell 1 rfl; go_simp; with_reducible rfl
  rotate_left
  · simp only [Act.put, List.setIfInBounds_toArray, List.set_cons_zero, List.set_cons_succ, i64_w, i32_w]; rfl
  refine ktake (i := 10) (N := (some 43)) (v := ?_) (a' := ?_) #[true, true, true, true, true, true, true, true, true, true, true, false, true, false, false, false] rfl rfl (by kernel_rfl) (fun _ _ _ h => h) (Or.inl ⟨by rfl, fun w1 hg => ?_⟩) ?_ ?_  -- 10 load 9 (tmp 42)
  rotate_left
  · refine RunG_value ?_; have c0 := (HO.up hg).cell 1 rfl; go_simp; with_reducible rfl
  rotate_left
  · simp only [Act.put, List.setIfInBounds_toArray, List.set_cons_zero, List.set_cons_succ, i64_w, i32_w]; rfl
  refine ktake (i := 11) (N := (some 44)) (v := .string (S25 (x3 + z3))) (a' := ?_) #[true, true, true, true, true, true, true, true, true, true, true, true, true, false, false, false] rfl rfl (by kernel_rfl) (fun _ _ _ h => h) (Or.inl ⟨by rfl, fun w1 hg => RunG_call Try.func113 (by kernel_rfl) rfl [.string (S25 x3), .string (S25 z3)] rfl (by rfl) (ladAdd x3 z3 _)⟩) ?_ ?_  -- 11 call { callee := value (func 113), args := #[tmp 41, tmp 43], argTypes := #[9, 9] }
  rotate_left
  · simp only [Act.put, List.setIfInBounds_toArray, List.set_cons_zero, List.set_cons_succ, i64_w, i32_w]; rfl
  refine ktake (i := 13) (N := (some 46)) (v := .string (S25 ((x3 + z3) * b))) (a' := ?_) #[true, true, true, true, true, true, true, true, true, true, true, true, true, true, false, false] rfl rfl (by kernel_rfl) (fun _ _ _ h => h) (Or.inl ⟨by rfl, fun w1 hg => RunG_call Try.func90 (by kernel_rfl) rfl [.string (S25 (x3 + z3)), .string (S25 b)] rfl (by rfl) (ladMul (x3 + z3) b _)⟩) ?_ ?_  -- 13 call { callee := value (func 90), args := #[tmp 44, tmp 45], argTypes := #[9, 9] }
  rotate_left
  · simp only [Act.put, List.setIfInBounds_toArray, List.set_cons_zero, List.set_cons_succ, i64_w, i32_w]; rfl
  refine kpure (i := 14) (N := (some 10)) (v := ?_) (a' := ?_) #[true, true, true, true, true, true, true, true, true, true, true, true, true, true, true, false] rfl rfl (by kernel_rfl) (fun _ _ _ h => h) (Or.inl ⟨by rfl, ?_⟩) ?_ ?_  -- 14 assign (tmp 39)
  rotate_left
  · intro w'; go_simp; with_reducible rfl
  rotate_left
  · simp only [Act.put, List.setIfInBounds_toArray, List.set_cons_zero, List.set_cons_succ, i64_w, i32_w]; rfl
  refine kpure (i := 15) (N := (some 11)) (v := ?_) (a' := ?_) #[true, true, true, true, true, true, true, true, true, true, true, true, true, true, true, true] rfl rfl (by kernel_rfl) (fun _ _ _ h => h) (Or.inl ⟨by rfl, ?_⟩) ?_ ?_  -- 15 assign (tmp 46)
  rotate_left
  · intro w'; go_simp; with_reducible rfl
  rotate_left
  · simp only [Act.put, List.setIfInBounds_toArray, List.set_cons_zero, List.set_cons_succ, i64_w, i32_w]; rfl
  refine kdone (by kernel_rfl) (fun w1 hg => ?_)
  replace HO := HO.up hg
  clear hg
  generalize hg3 : (x3 - z3) * a = da at *
  generalize hg4 : (x3 + z3) * b = cb at *
  generalize hg5 : a * a = aa at *
  generalize hg6 : b * b = bb at *
  generalize hg7 : aa - bb = e' at *
  go_wp2_with (first | (go_at_call 86; refine (number3 _ _ (heap_alloc_new _ _)).mono ?_; rintro e w1 ⟨rfl, hb⟩; replace HO := (HO.alloc _).up hb; clear hb) | (go_at_call 90; refine (ladMul u _ _).mono ?_; rintro e w1 ⟨rfl, hb⟩; replace HO := HO.up hb; have c1 := HO.cell 1 rfl; have f1 := HO.frozen 1 rfl; clear hb) | (go_at_call 90; refine (ladMul _ _ _).mono ?_; rintro e w1 ⟨rfl, hb⟩; replace HO := HO.up hb; clear hb) | (go_at_call 113; refine (ladAdd _ _ _).mono ?_; rintro e w1 ⟨rfl, hb⟩; replace HO := HO.up hb; clear hb) | (go_at_call 114; refine (ladSub _ _ _).mono ?_; rintro e w1 ⟨rfl, hb⟩; replace HO := HO.up hb; clear hb))
  subst hg7 hg6 hg5 hg4 hg3 hg2 hg1
  refine bodyPost_ret (v := _) (by simp [results, Try.results89, go_sem, *]) rfl ⟨rfl, ((((HO.set 1 rfl 0 _).set 1 rfl 1 _).set 1 rfl 2 _).set 1 rfl 3 _).below⟩
  -- * bb)), .string (S25 (e' * (aa + c25 * e'))), .string (S25 ((da + cb) * (da + cb))), .string (S25 (u * ((da - cb) * (da - cb))))]) (by simp [results, Try.results89, go_sem, *]) rfl ⟨rfl, ((((HO.set 1 rfl 0 _).set 1 rfl 1 _).set 1 rfl 2 _).set 1 rfl 3 _).below⟩
end Go.Proofs.Ytdmpnogjpgoaaaa

/-! Two or three operations may come up: each of them is shown. -/
namespace Go.Proofs.Ytdmpnogjpgoaaaa
open Go.RowKit
/-- A code that only goes on. -/
def OnlyN (M : Act → World → Prop) : Exit → Act → World → Prop
  | .normal, a, w => M a w
  | _, _, _ => False
theorem not_lets (M : Act → World → Prop) : ¬ LetsOut (OnlyN M) := fun ⟨_, _, h⟩ => h
theorem wp_cut {P : Program} {c : Code} {Q : Exit → Act → World → Prop} {a : Act} {w : World} (M : Act → World → Prop) (h : c.wp P (OnlyN M) a w) (hq : ∀ a w, M a w → Q .normal a w) : c.wp P Q a w :=
  wp_mono h fun e a w h => by cases e <;> first | exact hq _ _ h | exact h.elim
structure Shut (p : Prop) : Prop where
  out : p
/-- The same, what is to be shown out of sight. -/
theorem wp_cutS {P : Program} {c : Code} {Q : Exit → Act → World → Prop} {a : Act} {w : World} (M : Act → World → Prop) (h : ∀ M' : Act → World → Prop, Shut (∀ a w, M a w → M' a w) → c.wp P (OnlyN M') a w) (hq : ∀ a w, M a w → Q .normal a w) : c.wp P Q a w :=
  wp_cut M (h M ⟨fun _ _ h => h⟩) hq
section
variable {P : Program} {ops : Array Oper} {Q : Exit → Act → World → Prop} {md : Region.Mode} {ds : List Nat}
/-- Operation i is run, in a world that has grown. -/
def KRun (P : Program) (md : Region.Mode) (ops : Array Oper) (Q : Exit → Act → World → Prop) (ds : List Nat) (fuel : Nat) (i : Nat) (N : Option Tmp) (oi : Oper) (l' : Array Bool) (a : Act) (w : World) : Prop :=
  ∀ w1, Gr w w1 → ∀ K : Act → World → Prop, (∀ a' w', (i ∉ ds → Gr w1 w') → wpK P md ops Q ds fuel l' a' w' → K a' w') → if Region.wanted oi (yielded ops a.tmps) = true then Oper.wp P oi a w1 K Q else K (a.put N undef) w1
theorem kmany {fuel : Nat} {l : Array Bool} {a : Act} {w : World} {r : List Nat} (hr : Region.ready md ops l = r) (hne : r ≠ [])
    (h : ∀ i ∈ r, ∃ oi, ops[i]? = some oi ∧ KRun P md ops Q ds fuel i oi.dst oi (l.setIfInBounds i true) a w) : wpK P md ops Q ds (fuel + 1) l a w := by
  intro w1 hg
  refine ⟨fun h0 => absurd (hr.symm.trans h0) hne, fun j hj => ?_⟩
  rw [hr] at hj
  obtain ⟨oi, hi, h⟩ := h j hj
  exact wpOp_step hi (fun K' hK => h w1 hg K' (fun a' w' h2 h3 => hK a' w' ⟨h2, h3⟩))
theorem ktwo {i j : Nat} {N M : Option Tmp} {oi oj : Oper} {fuel : Nat} {l : Array Bool} {a : Act} {w : World} (li lj : Array Bool)
    (hi : ops[i]? = some oi) (hj : ops[j]? = some oj) (hN : oi.dst = N) (hM : oj.dst = M)
    (hc : ((Region.ready md ops l == [i, j]) && (l.setIfInBounds i true == li) && (l.setIfInBounds j true == lj)) = true)
    (h1 : KRun P md ops Q ds fuel i N oi li a w) (h2 : KRun P md ops Q ds fuel j M oj lj a w) : wpK P md ops Q ds (fuel + 1) l a w := by
  subst hN hM
  simp only [Bool.and_eq_true, beq_iff_eq] at hc
  obtain ⟨⟨hr, rfl⟩, rfl⟩ := hc
  refine kmany hr (by simp) fun k hk => ?_
  simp only [List.mem_cons, List.not_mem_nil, or_false] at hk
  rcases hk with rfl | rfl
  · exact ⟨_, hi, h1⟩
  · exact ⟨_, hj, h2⟩
theorem kthree {i j k : Nat} {N M O : Option Tmp} {oi oj ok : Oper} {fuel : Nat} {l : Array Bool} {a : Act} {w : World} (li lj lk : Array Bool)
    (hi : ops[i]? = some oi) (hj : ops[j]? = some oj) (hk : ops[k]? = some ok) (hN : oi.dst = N) (hM : oj.dst = M) (hO : ok.dst = O)
    (hc : ((Region.ready md ops l == [i, j, k]) && (l.setIfInBounds i true == li) && (l.setIfInBounds j true == lj) && (l.setIfInBounds k true == lk)) = true)
    (h1 : KRun P md ops Q ds fuel i N oi li a w) (h2 : KRun P md ops Q ds fuel j M oj lj a w) (h3 : KRun P md ops Q ds fuel k O ok lk a w) : wpK P md ops Q ds (fuel + 1) l a w := by
  subst hN hM hO
  simp only [Bool.and_eq_true, beq_iff_eq] at hc
  obtain ⟨⟨⟨hr, rfl⟩, rfl⟩, rfl⟩ := hc
  refine kmany hr (by simp) fun m hm => ?_
  simp only [List.mem_cons, List.not_mem_nil, or_false] at hm
  rcases hm with rfl | rfl | rfl
  · exact ⟨_, hi, h1⟩
  · exact ⟨_, hj, h2⟩
  · exact ⟨_, hk, h3⟩
end
end Go.Proofs.Ytdmpnogjpgoaaaa

/-! A round of a range over a function, walked in the plain calculus: no operation of it is a defer statement. -/
namespace Go.Proofs.Ytdmpnogjpgoaaaa
open Go.RowKit
section
variable {P : Program} {ops : Array Oper} {Q : Exit → Act → World → Prop} {l n : Nat}
theorem rowsIn_round {row : String} {args : Array Value} {w : World} {R : Value → World → Prop} (h : Rows P row args w R) : RowsIn (Fence.wide.inRound l) n P row args w R :=
  fun c cs _ => let ⟨v, w', r, s⟩ := h c cs; ⟨v, w', r, (StepsIn.of_steps s).mono fun m _ => by rw [fenced_inRound]; exact fenced_wide P m⟩
theorem callsIn_round {f : FuncId} {args : Array Value} {w : World} {R : Ending → World → Prop} (h : Calls P f args w R) : CallsIn (Fence.wide.inRound l) n P f args w R :=
  CallsIn.inRound l (callsIn_wide.2 h)
theorem opIn_round {o : Oper} {a : Act} {w : World} {K : Act → World → Prop} (hd : ∀ c, o.op ≠ .defer c) (h : o.wp P a w K Q) : o.wpIn (Fence.wide.inRound l) n P a w K Q := by
  unfold Oper.wp at h
  refine ⟨fun _ _ => trivial, ?_⟩
  rw [Oper.semAt_eq _ _ _ hd]
  generalize (execOp a.eval o).run P w = r at *
  cases r with
  | ok x w' =>
    cases x <;> simp only [Oper.uponIn, Oper.upon] at h ⊢ <;>
      first
        | exact h
        | exact ⟨fun hh => by simp [Fence.wide] at hh, CallsIn.mono (callsIn_round h) (fun e w'' he => by cases e <;> exact he)⟩
        | exact ⟨fun hh => by simp [Fence.wide] at hh, rowsIn_round h⟩
  | halt x w' => cases x <;> simp only [Oper.uponIn, Oper.upon] at h ⊢ <;> exact h
def noDefer (ops : Array Oper) : Bool := ops.all fun o => match o.op with | .defer _ => false | _ => true
theorem noDefer_spec (h : noDefer ops = true) {i : Nat} {o : Oper} (hi : ops[i]? = some o) (c : Call) : o.op ≠ .defer c := by
  have := Array.all_eq_true_iff_forall_mem.1 h o (Array.mem_of_getElem? hi)
  intro he
  simp [he] at this
theorem wpOpIn_round {i : Nat} {a : Act} {w : World} {K : Act → World → Prop} (hd : noDefer ops = true) (hQ : ¬ LetsOut Q) (h : wpOp P ops Q i K a w) : wpOpIn (Fence.wide.inRound l) n P ops Q i K a w := by
  unfold wpOp at h
  unfold wpOpIn
  cases hi : ops[i]? with
  | none => simp only [hi] at h ⊢; exact h
  | some o =>
    simp only [hi] at h ⊢
    split
    · rename_i hw
      simp only [hw, if_true] at h
      exact opIn_round (noDefer_spec hd hi) (h.resolve_right fun h => hQ h.2)
    · rename_i hw
      simp only [hw] at h
      exact ⟨fun _ _ => trivial, h⟩
theorem wpAnyIn_round (hd : noDefer ops = true) (hQ : ¬ LetsOut Q) {md : Region.Mode} : ∀ (fuel : Nat) (li : Array Bool) (a : Act) (w : World), wpAny P md ops Q fuel li a w → wpAnyIn (Fence.wide.inRound l) n P md ops Q fuel li a w
  | 0, _, _, _, h => h
  | fuel + 1, _, _, _, h => ⟨h.1, fun i hi => wpOpIn_mono (fun a' w' h' => wpAnyIn_round hd hQ fuel _ a' w' h') (wpOpIn_round hd hQ (h.2 i hi))⟩
/-- A drawn region in a round. -/
theorem kstartR {ds : List Nat} {id m : Nat} {a : Act} {w : World} (li : Array Bool) (hm : P.follows .mixedOrders = true) (hn : ops.size = m) (hl : Array.replicate m false = li) (hd : noDefer ops = true) (hQ : ¬ LetsOut Q)
    (h : wpK P .any ops Q ds m li a w) : (Code.region id ops true).wpIn (Fence.wide.inRound l) n P Q a w := by
  subst hn
  subst hl
  exact wpIn_region_any hm (wpAnyIn_round hd hQ _ _ _ _ (wpAny_of_K _ _ _ _ (h.up ((Gr.refl w).drew))))
theorem wpOpsIn_round (hd : noDefer ops = true) (hQ : ¬ LetsOut Q) : ∀ (li : List Nat) (a : Act) (w : World), wpOps P ops Q li a w → wpOpsIn (Fence.wide.inRound l) n P ops Q li a w
  | [], _, _, h => h
  | i :: rest, a, w, h => by
    unfold wpOps at h
    unfold wpOpsIn
    cases hi : ops[i]? with
    | none => simp only [hi] at h ⊢; exact wpOpsIn_round hd hQ rest a w h
    | some o =>
      simp only [hi] at h ⊢
      split
      · rename_i hw
        simp only [hw, if_true] at h
        exact Oper.wpIn_mono (fun a w h => wpOpsIn_round hd hQ rest a w h) (opIn_round (noDefer_spec hd hi) (h.resolve_right fun h => hQ h.2))
      · rename_i hw
        simp only [hw] at h
        exact ⟨fun _ _ => trivial, wpOpsIn_round hd hQ rest _ w h⟩
theorem wpIn_cut {F : Fence} {c : Code} {a : Act} {w : World} (M : Act → World → Prop) (h : c.wpIn F n P (OnlyN M) a w) (hq : ∀ a w, M a w → Q .normal a w) : c.wpIn F n P Q a w :=
  wpIn_mono h fun e a w h => by cases e <;> first | exact hq _ _ h | exact h.elim
end
end Go.Proofs.Ytdmpnogjpgoaaaa

set_option linter.unusedSimpArgs false
namespace Go.Proofs.Ytdmpnogjpgoaaaa
open Go.RowKit Go.Shelf Go.Proofs.YtdmpnogjpgoaaaaW.PrintWords Go.Proofs.YtdmpnogjpgoaaaaW.PrintLast Go.Proofs.YtdmpnogjpgoaaaaW.PrintMore
attribute [local go_sem] Oper.semAt_some
/-- bit i of a key -/
def kbit (k : ByteArray) (i : Nat) : Bool := (k.data[i / 8]?.getD 0).toNat / 2 ^ (i % 8) % 2 == 1
def kbits (k : ByteArray) : List Bool := (List.range 255).map fun j => kbit k (254 - j)
theorem and1 (n : Nat) (h : n < 256) : Go.bits .and .u8 (n : Int) 1 = ((n % 2 : Nat) : Int) := by
  have : ∀ n : Fin 256, Go.bits .and .u8 (n.val : Int) 1 = ((n.val % 2 : Nat) : Int) := by decide +kernel
  exact this ⟨n, h⟩
theorem kbit_go (k : ByteArray) (m : Nat) (h : m / 8 < k.size) : (Go.bits .and .u8 (((k[m / 8]'h).toNat : Int) / 2 ^ (m % 8)) 1 == 1) = kbit k m := by
  have e : (((k[m / 8]'h).toNat : Int) / 2 ^ (m % 8)) = (((k[m / 8]'h).toNat / 2 ^ (m % 8) : Nat) : Int) := by rw [Int.natCast_ediv, Int.natCast_pow]; rfl
  have hlt : (k[m / 8]'h).toNat / 2 ^ (m % 8) < 256 := Nat.lt_of_le_of_lt (Nat.div_le_self _ _) (k[m / 8]'h).toNat_lt
  have hd : k.data[m / 8]?.getD 0 = k[m / 8]'h := by rw [show k.data[m / 8]? = some (k[m / 8]'h) from Array.getElem?_eq_getElem h]; rfl
  rw [e, and1 _ hlt]
  unfold kbit
  rw [hd]
  generalize (k[m / 8]'h).toNat / 2 ^ (m % 8) = x
  rcases Nat.mod_two_eq_zero_or_one x with h | h <;> rw [h] <;> rfl
/-- the block b keeps its cells -/
def KeepsAt (b : Nat) (W W' : World) : Prop := ∀ cs t fr, W.heap[b]? = some (.cells cs t fr) → W'.heap[b]? = some (.cells cs t fr)
theorem keepsAt_t {b : Nat} {A B C : World} (h : KeepsAt b A B) (k : KeepsAt b B C) : KeepsAt b A C := fun cs t fr e => k cs t fr (h cs t fr e)
theorem keepsAt_b {b : Nat} {w : World} (W : World) (l : Nat) (o o' : Obj) (_ : w.heap.size ≤ l) (h : W.heap[l]? = some o) (hc : o.isCells = false) (_ : o.isWalk = false) : KeepsAt b W (W.putObj l o') := by
  intro cs t fr e
  have hne : b ≠ l := fun he => by subst he; rw [e] at h; cases h; cases hc
  exact ((grownBy_putObj' W l o').block b (Array.getElem?_eq_some_iff.1 e).1 (fun he => hne (by cases he; rfl))).trans e
attribute [local irreducible] Calls CallsIn
theorem bits1_stops (n b : Nat) (k : ByteArray) (hk : k.size = 32) (w : World) (hb : w.heap[b]? = some (.cells #[.string k] 9 (0, 0))) :
    SeqStopsK Fence.wide n Try.prog 112 #[.pointer (some ⟨b, 0, none⟩)] (fun x : Bool => #[.bool x]) (KeepsAt b) (fun xs => xs = kbits k) (fun _ => True) 255 w := by
  intro l J Jx W hW hJ hJx hY h0
  have hbW : W.heap[b]? = some (.cells #[.string k] 9 (0, 0)) := (hW.block b (Array.getElem?_eq_some_iff.1 hb).1).trans hb
  refine callsIn_of_wp Try.func112 rfl trivial ?_ rfl
  simp only [Try.ntmps112, List.size_toArray, List.length_cons, List.length_nil, Nat.reduceAdd, Nat.reduceSub, Array.replicate_succ, Array.replicate_zero, List.push_toArray, List.append_toArray, List.nil_append, List.cons_append]
  gi_wp2
  gi_loopw [3] (fun p wr => ∃ j : Nat, p = .int .i64 (254 - (j : Int)) ∧ j ≤ 255 ∧ J ((kbits k).take j) wr ∧ wr.heap[b]? = some (.cells #[.string k] 9 (0, 0)))
    (fun p wr => (match p with | .int _ i => i + 1 | _ => 0).toNat)
  case atStart => exact ⟨0, rfl, by omega, h0, hbW⟩
  case round =>
    obtain ⟨j, rfl, hj, hJs, hc⟩ := hrel
    by_cases h255 : j < 255
    · have hx : (kbits k).take (j + 1) = (kbits k).take j ++ [kbit k (254 - j)] := by
        rw [List.take_add_one]; unfold kbits; simp [h255]
      obtain ⟨fn, tmps, assign, body, hy, hR⟩ := hY ((kbits k).take j) (kbit k (254 - j)) wr hJs (by unfold kbits; simp; omega)
      have hcell := blk_cell hc 0
      have hgo := kbit_go k (254 - j) (by omega)
      gi_wp2
      refine ⟨by simp [Fence.wide], ?_⟩
      refine hR.mono ?_
      rintro e W3 (⟨rfl, hJ3, hk3⟩ | ⟨rfl, hJx3⟩)
      · gi_wp2
        go_roundw
        case rel => exact ⟨j + 1, congrArg (Value.int .i64) (show 254 - (j : Int) - 1 = 254 - ((j + 1 : Nat) : Int) by omega), by omega, by rw [hx]; exact hJ3, hk3 _ _ _ hc⟩
        case measure => simp; omega
      · gi_wp2
        refine bodyPost_ret (results_none rfl _ _ _) rfl ?_
        exact ⟨⟨_, rfl⟩, .inr ⟨_, trivial, hJx3⟩⟩
    · obtain rfl : j = 255 := by omega
      gi_wp2
      go_end0
      refine ⟨⟨_, rfl⟩, .inl ⟨_, rfl, ?_⟩⟩
      rw [List.take_of_length_le (by unfold kbits; simp)] at hJs
      exact hJs
theorem bits_any (k : ByteArray) (w : World) : Calls Try.prog 87 #[.string k] w fun e w' => ∃ g, e = .returned (.func (.func 112) #[] #[.pointer (some ⟨g, 0, none⟩)]) ∧
    w.heap.size ≤ g ∧ w'.heap[g]? = some (.cells #[.string k] 9 (0, 0)) ∧ Below w.heap.size w w' := by
  go_enter Try.func87, Try.ntmps87
  go_wp2
  go_ret
  exact ⟨_, rfl, Nat.le_refl _, heap_alloc_new _ _, below_alloc (Below.refl _ _) _⟩
end Go.Proofs.Ytdmpnogjpgoaaaa

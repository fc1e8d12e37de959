import Derived.Shelf.Strings.Builder1
import Derived.Shelf.Strings.Builder2
import Derived.Shelf.Strings.OnBuilder
import Derived.Shelf.Strings.BuilderF
import Derived.Shelf.Strings.BuilderK
import Derived.Shelf.Strings.Builder2Cap
import Derived.Shelf.Strings.Prefix
import Derived.Shelf.Bits.Mul64
import Derived.Shelf.Strings.Repeat
import Derived.Shelf.Strings.BuilderCap
import Derived.Test.YtpafocjmheemjaaDoorProg
namespace Go.Proofs
open Go.Shelf
def Tryd.lays170_ren : Go.Shelf.Ren := ⟨fun | 170 => 68 | n => n, fun | 70 => 99 | 3 => 3 | 0 => 0 | 72 => 101 | 37 => 90 | 5 => 5 | n => n, fun | n => n⟩
theorem Tryd.lays170 : Go.Proofs.Lays.n170 Tryd.prog Tryd.lays170_ren := {
  mixed := by kernel_rfl
  f170 := Tryd.func68.trans (congrArg some (by kernel_rfl))
  t0 := Tryd.underlying0
  a0 := Tryd.isAgg0
  z0 := Tryd.sizeOf0
  v0 := Tryd.zeroValue0
  t3 := Tryd.underlying3
  a3 := Tryd.isAgg3
  z3 := Tryd.sizeOf3
  v3 := Tryd.zeroValue3
  t37 := Tryd.underlying90
  a37 := Tryd.isAgg90
  z37 := Tryd.sizeOf90
  v37 := Tryd.zeroValue90
  t70 := Tryd.underlying99
  a70 := Tryd.isAgg99
  z70 := Tryd.sizeOf99
  v70 := Tryd.zeroValue99
  t72 := Tryd.underlying101
  a72 := Tryd.isAgg101
  z72 := Tryd.sizeOf101
  v72 := Tryd.zeroValue101 }
def Tryd.lays169_ren : Go.Shelf.Ren := ⟨fun | 169 => 70 | n => n, fun | 70 => 99 | 9 => 9 | 0 => 0 | 72 => 101 | 37 => 90 | 127 => 139 | 3 => 3 | 5 => 5 | n => n, fun | n => n⟩
theorem Tryd.lays169 : Go.Proofs.Lays.n169 Tryd.prog Tryd.lays169_ren := {
  mixed := by kernel_rfl
  f169 := Tryd.func70.trans (congrArg some (by kernel_rfl))
  t0 := Tryd.underlying0
  a0 := Tryd.isAgg0
  z0 := Tryd.sizeOf0
  v0 := Tryd.zeroValue0
  t3 := Tryd.underlying3
  a3 := Tryd.isAgg3
  z3 := Tryd.sizeOf3
  v3 := Tryd.zeroValue3
  t9 := Tryd.underlying9
  a9 := Tryd.isAgg9
  z9 := Tryd.sizeOf9
  v9 := Tryd.zeroValue9
  t37 := Tryd.underlying90
  a37 := Tryd.isAgg90
  z37 := Tryd.sizeOf90
  v37 := Tryd.zeroValue90
  t70 := Tryd.underlying99
  a70 := Tryd.isAgg99
  z70 := Tryd.sizeOf99
  v70 := Tryd.zeroValue99
  t72 := Tryd.underlying101
  a72 := Tryd.isAgg101
  z72 := Tryd.sizeOf101
  v72 := Tryd.zeroValue101
  t127 := Tryd.underlying139
  a127 := Tryd.isAgg139
  z127 := Tryd.sizeOf139
  v127 := Tryd.zeroValue139 }
theorem Tryd.Builder_Extra_169 : Builder.Extra Tryd.prog Tryd.lays169_ren := {
  sizeBuilder := by kernel_rfl
  liesBuilder := by kernel_rfl
  t5 := Tryd.underlying5
  a5 := Tryd.isAgg5
  z5 := Tryd.sizeOf5
  v5 := Tryd.zeroValue5
  infoByte := by kernel_rfl
  cellsByte := by kernel_rfl
  sizeByte := by kernel_rfl
  neB5 := by decide }
def Tryd.lays156_ren : Go.Shelf.Ren := ⟨fun | 156 => 48 | 165 => 72 | 166 => 69 | 169 => 70 | 240 => 91 | 241 => 92 | 276 => 104 | 277 => 105 | n => n, fun | 31 => 53 | 9 => 9 | 3 => 3 | 4 => 4 | 0 => 0 | 20 => 20 | 72 => 101 | 76 => 105 | 70 => 99 | 37 => 90 | 75 => 104 | 127 => 139 | 164 => 151 | 5 => 5 | 80 => 107 | n => n, fun | n => n⟩
theorem Tryd.lays156 : Go.Proofs.Lays.n156 Tryd.prog Tryd.lays156_ren := {
  mixed := by kernel_rfl
  f156 := Tryd.func48.trans (congrArg some (by kernel_rfl))
  f165 := Tryd.func72.trans (congrArg some (by kernel_rfl))
  f166 := Tryd.func69.trans (congrArg some (by kernel_rfl))
  f169 := Tryd.func70.trans (congrArg some (by kernel_rfl))
  f240 := Tryd.func91.trans (congrArg some (by kernel_rfl))
  f241 := Tryd.func92.trans (congrArg some (by kernel_rfl))
  f276 := Tryd.func104.trans (congrArg some (by kernel_rfl))
  f277 := Tryd.func105.trans (congrArg some (by kernel_rfl))
  t0 := Tryd.underlying0
  a0 := Tryd.isAgg0
  z0 := Tryd.sizeOf0
  v0 := Tryd.zeroValue0
  t3 := Tryd.underlying3
  a3 := Tryd.isAgg3
  z3 := Tryd.sizeOf3
  v3 := Tryd.zeroValue3
  t4 := Tryd.underlying4
  a4 := Tryd.isAgg4
  z4 := Tryd.sizeOf4
  v4 := Tryd.zeroValue4
  t9 := Tryd.underlying9
  a9 := Tryd.isAgg9
  z9 := Tryd.sizeOf9
  v9 := Tryd.zeroValue9
  t20 := Tryd.underlying20
  a20 := Tryd.isAgg20
  z20 := Tryd.sizeOf20
  v20 := Tryd.zeroValue20
  t31 := Tryd.underlying53
  a31 := Tryd.isAgg53
  z31 := Tryd.sizeOf53
  v31 := Tryd.zeroValue53
  t37 := Tryd.underlying90
  a37 := Tryd.isAgg90
  z37 := Tryd.sizeOf90
  v37 := Tryd.zeroValue90
  t70 := Tryd.underlying99
  a70 := Tryd.isAgg99
  z70 := Tryd.sizeOf99
  v70 := Tryd.zeroValue99
  t72 := Tryd.underlying101
  a72 := Tryd.isAgg101
  z72 := Tryd.sizeOf101
  v72 := Tryd.zeroValue101
  t75 := Tryd.underlying104
  a75 := Tryd.isAgg104
  z75 := Tryd.sizeOf104
  v75 := Tryd.zeroValue104
  t76 := Tryd.underlying105
  a76 := Tryd.isAgg105
  z76 := Tryd.sizeOf105
  v76 := Tryd.zeroValue105
  t127 := Tryd.underlying139
  a127 := Tryd.isAgg139
  z127 := Tryd.sizeOf139
  v127 := Tryd.zeroValue139
  t164 := Tryd.underlying151
  a164 := Tryd.isAgg151
  z164 := Tryd.sizeOf151
  v164 := Tryd.zeroValue151 }
theorem Tryd.Builder_Extra_156 : Builder.Extra Tryd.prog Tryd.lays156_ren := {
  sizeBuilder := by kernel_rfl
  liesBuilder := by kernel_rfl
  t5 := Tryd.underlying5
  a5 := Tryd.isAgg5
  z5 := Tryd.sizeOf5
  v5 := Tryd.zeroValue5
  infoByte := by kernel_rfl
  cellsByte := by kernel_rfl
  sizeByte := by kernel_rfl
  neB5 := by decide }
open Go.RowKit in
theorem Tryd.strings_Join (bk o c : Nat) (xs : List ByteArray) (sep : ByteArray) (w : World) (hcells : ∀ (j : Nat) x, xs[j]? = some x → w.cell? ⟨bk, o + j, none⟩ = some (.string x)) (hbk : bk < w.heap.size) (hN : xs.length ≤ 140737488355328) (hcap : xs.length ≤ c) (hlen : (Lib.join (xs.map (·.data.toList)) sep.data.toList).length ≤ 140737488355328) :
    Calls Tryd.prog 48 #[.slice (some ⟨bk, o, none⟩) xs.length c, .string sep] w fun e w' => e = .returned (.string ⟨(Lib.join (xs.map (·.data.toList)) sep.data.toList).toArray⟩) ∧ Below w.heap.size w w' := Any.strings_Join Tryd.lays156 Tryd.Builder_Extra_156 bk o c xs sep w hcells hbk hN hcap hlen
open Go.RowKit in
theorem Tryd.Builder_Len_f (B b : Nat) (bs : List Value) (w : World) (h : Lib.IsBuilderF 101 5 B b bs w) :
    Calls Tryd.prog 68 #[.pointer (some ⟨b, 0, none⟩)] w fun e w' => e = .returned (.int .i64 bs.length) ∧ w' = w := Any.Builder_Len_f Tryd.lays170 B b bs w h
open Go.RowKit in
theorem Tryd.Builder_String_any_f (B b : Nat) (l : List UInt8) (w : World) (h : Lib.IsBuilderF 101 5 B b (Lib.byteCells l) w) (hBw : B ≤ w.heap.size) :
    Calls Tryd.prog 70 #[.pointer (some ⟨b, 0, none⟩)] w fun e w' => e = .returned (.string ⟨l.toArray⟩) ∧ (Lib.IsBuilderF 101 5 B b (Lib.byteCells l) w' ∧ Below B w w') := Any.Builder_String_any_f Tryd.lays169 Tryd.Builder_Extra_169 B b l w h hBw
def Tryd.lays105_ren : Go.Shelf.Ren := ⟨fun | 105 => 60 | 212 => 85 | 99 => 86 | 165 => 72 | 166 => 69 | 170 => 68 | 169 => 70 | 263 => 98 | 264 => 99 | 206 => 100 | 240 => 91 | 241 => 92 | 276 => 104 | 277 => 105 | n => n, fun | 9 => 9 | 3 => 3 | 4 => 4 | 20 => 20 | 0 => 0 | 46 => 89 | 109 => 132 | 5 => 5 | 72 => 101 | 76 => 105 | 51 => 91 | 146 => 145 | 53 => 23 | 148 => 147 | 70 => 99 | 37 => 90 | 75 => 104 | 127 => 139 | 164 => 151 | 80 => 107 | n => n, fun | n => n⟩
theorem Tryd.lays105 : Go.Proofs.Lays.n105 Tryd.prog Tryd.lays105_ren := {
  mixed := by kernel_rfl
  f99 := Tryd.func86.trans (congrArg some (by kernel_rfl))
  f105 := Tryd.func60.trans (congrArg some (by kernel_rfl))
  f165 := Tryd.func72.trans (congrArg some (by kernel_rfl))
  f166 := Tryd.func69.trans (congrArg some (by kernel_rfl))
  f169 := Tryd.func70.trans (congrArg some (by kernel_rfl))
  f170 := Tryd.func68.trans (congrArg some (by kernel_rfl))
  f206 := Tryd.func100.trans (congrArg some (by kernel_rfl))
  f212 := Tryd.func85.trans (congrArg some (by kernel_rfl))
  f240 := Tryd.func91.trans (congrArg some (by kernel_rfl))
  f241 := Tryd.func92.trans (congrArg some (by kernel_rfl))
  f263 := Tryd.func98.trans (congrArg some (by kernel_rfl))
  f264 := Tryd.func99.trans (congrArg some (by kernel_rfl))
  f276 := Tryd.func104.trans (congrArg some (by kernel_rfl))
  f277 := Tryd.func105.trans (congrArg some (by kernel_rfl))
  t0 := Tryd.underlying0
  a0 := Tryd.isAgg0
  z0 := Tryd.sizeOf0
  v0 := Tryd.zeroValue0
  t3 := Tryd.underlying3
  a3 := Tryd.isAgg3
  z3 := Tryd.sizeOf3
  v3 := Tryd.zeroValue3
  t4 := Tryd.underlying4
  a4 := Tryd.isAgg4
  z4 := Tryd.sizeOf4
  v4 := Tryd.zeroValue4
  t5 := Tryd.underlying5
  a5 := Tryd.isAgg5
  z5 := Tryd.sizeOf5
  v5 := Tryd.zeroValue5
  t9 := Tryd.underlying9
  a9 := Tryd.isAgg9
  z9 := Tryd.sizeOf9
  v9 := Tryd.zeroValue9
  t20 := Tryd.underlying20
  a20 := Tryd.isAgg20
  z20 := Tryd.sizeOf20
  v20 := Tryd.zeroValue20
  t37 := Tryd.underlying90
  a37 := Tryd.isAgg90
  z37 := Tryd.sizeOf90
  v37 := Tryd.zeroValue90
  t46 := Tryd.underlying89
  a46 := Tryd.isAgg89
  z46 := Tryd.sizeOf89
  v46 := Tryd.zeroValue89
  t51 := Tryd.underlying91
  a51 := Tryd.isAgg91
  z51 := Tryd.sizeOf91
  v51 := Tryd.zeroValue91
  t53 := Tryd.underlying23
  a53 := Tryd.isAgg23
  z53 := Tryd.sizeOf23
  v53 := Tryd.zeroValue23
  t70 := Tryd.underlying99
  a70 := Tryd.isAgg99
  z70 := Tryd.sizeOf99
  v70 := Tryd.zeroValue99
  t72 := Tryd.underlying101
  a72 := Tryd.isAgg101
  z72 := Tryd.sizeOf101
  v72 := Tryd.zeroValue101
  t75 := Tryd.underlying104
  a75 := Tryd.isAgg104
  z75 := Tryd.sizeOf104
  v75 := Tryd.zeroValue104
  t76 := Tryd.underlying105
  a76 := Tryd.isAgg105
  z76 := Tryd.sizeOf105
  v76 := Tryd.zeroValue105
  t109 := Tryd.underlying132
  a109 := Tryd.isAgg132
  z109 := Tryd.sizeOf132
  v109 := Tryd.zeroValue132
  t127 := Tryd.underlying139
  a127 := Tryd.isAgg139
  z127 := Tryd.sizeOf139
  v127 := Tryd.zeroValue139
  t146 := Tryd.underlying145
  a146 := Tryd.isAgg145
  z146 := Tryd.sizeOf145
  v146 := Tryd.zeroValue145
  t148 := Tryd.underlying147
  a148 := Tryd.isAgg147
  z148 := Tryd.sizeOf147
  v148 := Tryd.zeroValue147
  t164 := Tryd.underlying151
  a164 := Tryd.isAgg151
  z164 := Tryd.sizeOf151
  v164 := Tryd.zeroValue151 }
theorem Tryd.Builder_Extra_105 : Builder.Extra Tryd.prog Tryd.lays105_ren := {
  sizeBuilder := by kernel_rfl
  liesBuilder := by kernel_rfl
  t5 := Tryd.underlying5
  a5 := Tryd.isAgg5
  z5 := Tryd.sizeOf5
  v5 := Tryd.zeroValue5
  infoByte := by kernel_rfl
  cellsByte := by kernel_rfl
  sizeByte := by kernel_rfl
  neB5 := by decide }
open Go.RowKit Go.Lib in
theorem Tryd.strings_Repeat (s : ByteArray) (c : Nat) (w : World) (hc : c ≤ 9223372036854775807) (hlen : s.size * c ≤ 140737488355328) :
    Calls Tryd.prog 60 #[.string s, .int .i64 c] w fun e w' => e = .returned (.string ⟨(Lib.repeatL s.data.toList c).toArray⟩) ∧ Below w.heap.size w w' := Any.strings_Repeat Tryd.lays105 Tryd.Builder_Extra_105 s c w hc hlen
end Go.Proofs

/-
  No cell of these rows narrows 'for every input' (looked for: loops, veiled, ifaces, maps, wideKeys, modest, calm, conditions, laid).
  DERIVED. THE GIVEN ROWS OF THIS SEAT. 8 by the template 'for every input the law returns true; each argument reads behind the call as it read before'; 0 by the template 'total and deterministic' (their statements: YtdmpnogjpgoaaaaTotals.lean).
  GIVEN WITH THE SEED: the statements are not yours to turn. If you find one false, say at which input.
  Laid BY PROGRAM, IN A SANDBOX (cutbox-rows.mjs): the forced cells as the released guide's own fill.sh prints them over the translation d692103b62984556… (all of the seat's roots in one cut). By AI agents, Wed Nov 11 2026. No macro, syntax, notation, axiom, sorry.
-/
import Derived.Test.YtdmpnogjpgoaaaaChecked
import GoSem.Claim
import GoSem.ClaimJoined
import GoSem.ClaimMapViews
import Derived.JoinedTies
import Derived.KernelRfl
namespace Go.Proofs.Ytdmpnogjpgoaaaa
/- THE CELL 'sum', in the pinned program and in every row, IS THE sha256 OF THE DUMP (.gsa) THAT YtdmpnogjpgoaaaaProg.lean LOADS. Nothing in Lean hashes anything: it is a label: what it is worth is what the hold of that sum in a sandbox is worth. -/
noncomputable def Try.pinned : Pinned := { name := "ytdmpnogjpgoaaaa", sum := "d692103b6298455647a631c4a3cf9827e403ef8794018f55a7ec220cd9a093ec", checked := Try.checked }
namespace Rows
def none {H : Type} : Left H := { results := [], args := [] }

/-- 'demurrallaw01.LimbInverses': WHATEVER THE INPUT: true; the input reads as it did. -/
def limbInversesSpec : ChangeSpec := { name := "limbInverses", fn := fun _ => fun
  | [d] => { results := [.lit (.bool true)], args := [d] }
  | _ => none }
def limbInversesRow : OpenClaim := { program := "ytdmpnogjpgoaaaa", sum := "d692103b6298455647a631c4a3cf9827e403ef8794018f55a7ec220cd9a093ec", func := "demurral/demurrallaw01.LimbInverses", spec := "limbInverses", inPlace := ["math/bits.Add64", "math/bits.Sub64"], apart := false }
def LimbInversesSaid : Prop := limbInversesRow.holds Try.pinned (OpenSpec.ofChange limbInversesSpec)

/-- ITS FALSE NEIGHBOUR: 'it returns false'. Refute it at one input. -/
def limbInversesWrong : ChangeSpec := { name := "limbInverses", fn := fun _ => fun
  | [d] => { results := [.lit (.bool false)], args := [d] }
  | _ => none }
def LimbInversesWrongFalsely : Prop := limbInversesRow.holds Try.pinned (OpenSpec.ofChange limbInversesWrong)

/-- 'demurrallaw01.LimbTells': WHATEVER THE INPUT: true; the input reads as it did. -/
def limbTellsSpec : ChangeSpec := { name := "limbTells", fn := fun _ => fun
  | [d1, d2] => { results := [.lit (.bool true)], args := [d1, d2] }
  | _ => none }
def limbTellsRow : OpenClaim := { program := "ytdmpnogjpgoaaaa", sum := "d692103b6298455647a631c4a3cf9827e403ef8794018f55a7ec220cd9a093ec", func := "demurral/demurrallaw01.LimbTells", spec := "limbTells", inPlace := ["math/bits.Add64", "math/bits.Sub64"], apart := false }
def LimbTellsSaid : Prop := limbTellsRow.holds Try.pinned (OpenSpec.ofChange limbTellsSpec)

/-- ITS FALSE NEIGHBOUR: 'it returns false'. Refute it at one input. -/
def limbTellsWrong : ChangeSpec := { name := "limbTells", fn := fun _ => fun
  | [d1, d2] => { results := [.lit (.bool false)], args := [d1, d2] }
  | _ => none }
def LimbTellsWrongFalsely : Prop := limbTellsRow.holds Try.pinned (OpenSpec.ofChange limbTellsWrong)

/-- 'demurrallaw01.LimbField': WHATEVER THE INPUT: true; the input reads as it did. -/
def limbFieldSpec : ChangeSpec := { name := "limbField", fn := fun _ => fun
  | [d1, d2, d3] => { results := [.lit (.bool true)], args := [d1, d2, d3] }
  | _ => none }
def limbFieldRow : OpenClaim := { program := "ytdmpnogjpgoaaaa", sum := "d692103b6298455647a631c4a3cf9827e403ef8794018f55a7ec220cd9a093ec", func := "demurral/demurrallaw01.LimbField", spec := "limbField", inPlace := ["math/bits.Add64", "math/bits.Sub64"], unfollowed := true, recurses := true, apart := false }
def LimbFieldSaid : Prop := limbFieldRow.holds Try.pinned (OpenSpec.ofChange limbFieldSpec)

/-- ITS FALSE NEIGHBOUR: 'it returns false'. Refute it at one input. -/
def limbFieldWrong : ChangeSpec := { name := "limbField", fn := fun _ => fun
  | [d1, d2, d3] => { results := [.lit (.bool false)], args := [d1, d2, d3] }
  | _ => none }
def LimbFieldWrongFalsely : Prop := limbFieldRow.holds Try.pinned (OpenSpec.ofChange limbFieldWrong)

/-- 'demurrallaw08.FramePuts': WHATEVER THE INPUT: true; the input reads as it did. -/
def framePutsSpec : ChangeSpec := { name := "framePuts", fn := fun _ => fun
  | [d1, d2] => { results := [.lit (.bool true)], args := [d1, d2] }
  | _ => none }
def framePutsRow : OpenClaim := { program := "ytdmpnogjpgoaaaa", sum := "d692103b6298455647a631c4a3cf9827e403ef8794018f55a7ec220cd9a093ec", func := "demurral/demurrallaw08.FramePuts", spec := "framePuts", inPlace := ["internal/abi.NoEscape"], unfollowed := true, recurses := true, apart := false }
def FramePutsSaid : Prop := framePutsRow.holds Try.pinned (OpenSpec.ofChange framePutsSpec)

/-- ITS FALSE NEIGHBOUR: 'it returns false'. Refute it at one input. -/
def framePutsWrong : ChangeSpec := { name := "framePuts", fn := fun _ => fun
  | [d1, d2] => { results := [.lit (.bool false)], args := [d1, d2] }
  | _ => none }
def FramePutsWrongFalsely : Prop := framePutsRow.holds Try.pinned (OpenSpec.ofChange framePutsWrong)

/-- 'demurrallaw14.RevealTakes': WHATEVER THE INPUT: true; the input reads as it did. -/
def revealTakesSpec : ChangeSpec := { name := "revealTakes", fn := fun _ => fun
  | [d1, d2, d3, d4, d5, d6] => { results := [.lit (.bool true)], args := [d1, d2, d3, d4, d5, d6] }
  | _ => none }
def revealTakesRow : OpenClaim := { program := "ytdmpnogjpgoaaaa", sum := "d692103b6298455647a631c4a3cf9827e403ef8794018f55a7ec220cd9a093ec", func := "demurral/demurrallaw14.RevealTakes", spec := "revealTakes", unfollowed := true, recurses := true, apart := false }
def RevealTakesSaid : Prop := revealTakesRow.holds Try.pinned (OpenSpec.ofChange revealTakesSpec)

/-- ITS FALSE NEIGHBOUR: 'it returns false'. Refute it at one input. -/
def revealTakesWrong : ChangeSpec := { name := "revealTakes", fn := fun _ => fun
  | [d1, d2, d3, d4, d5, d6] => { results := [.lit (.bool false)], args := [d1, d2, d3, d4, d5, d6] }
  | _ => none }
def RevealTakesWrongFalsely : Prop := revealTakesRow.holds Try.pinned (OpenSpec.ofChange revealTakesWrong)

/-- 'demurrallaw02.LadderClamps': WHATEVER THE INPUT: true; the input reads as it did. -/
def ladderClampsSpec : ChangeSpec := { name := "ladderClamps", fn := fun _ => fun
  | [d1, d2] => { results := [.lit (.bool true)], args := [d1, d2] }
  | _ => none }
def ladderClampsRow : OpenClaim := { program := "ytdmpnogjpgoaaaa", sum := "d692103b6298455647a631c4a3cf9827e403ef8794018f55a7ec220cd9a093ec", func := "demurral/demurrallaw02.LadderClamps", spec := "ladderClamps", inPlace := ["math/bits.Add64", "math/bits.Sub64"], unfollowed := true, recurses := true, apart := false }
def LadderClampsSaid : Prop := ladderClampsRow.holds Try.pinned (OpenSpec.ofChange ladderClampsSpec)

/-- ITS FALSE NEIGHBOUR: 'it returns false'. Refute it at one input. -/
def ladderClampsWrong : ChangeSpec := { name := "ladderClamps", fn := fun _ => fun
  | [d1, d2] => { results := [.lit (.bool false)], args := [d1, d2] }
  | _ => none }
def LadderClampsWrongFalsely : Prop := ladderClampsRow.holds Try.pinned (OpenSpec.ofChange ladderClampsWrong)

/-- 'demurrallaw02.LadderMults': WHATEVER THE INPUT: true; the input reads as it did. -/
def ladderMultsSpec : ChangeSpec := { name := "ladderMults", fn := fun _ => fun
  | [d1, d2] => { results := [.lit (.bool true)], args := [d1, d2] }
  | _ => none }
def ladderMultsRow : OpenClaim := { program := "ytdmpnogjpgoaaaa", sum := "d692103b6298455647a631c4a3cf9827e403ef8794018f55a7ec220cd9a093ec", func := "demurral/demurrallaw02.LadderMults", spec := "ladderMults", inPlace := ["math/bits.Add64", "math/bits.Sub64"], unfollowed := true, recurses := true, apart := false }
def LadderMultsSaid : Prop := ladderMultsRow.holds Try.pinned (OpenSpec.ofChange ladderMultsSpec)

/-- ITS FALSE NEIGHBOUR: 'it returns false'. Refute it at one input. -/
def ladderMultsWrong : ChangeSpec := { name := "ladderMults", fn := fun _ => fun
  | [d1, d2] => { results := [.lit (.bool false)], args := [d1, d2] }
  | _ => none }
def LadderMultsWrongFalsely : Prop := ladderMultsRow.holds Try.pinned (OpenSpec.ofChange ladderMultsWrong)

/-- 'demurrallaw02.LadderShares': WHATEVER THE INPUT: true; the input reads as it did. -/
def ladderSharesSpec : ChangeSpec := { name := "ladderShares", fn := fun _ => fun
  | [d1, d2] => { results := [.lit (.bool true)], args := [d1, d2] }
  | _ => none }
def ladderSharesRow : OpenClaim := { program := "ytdmpnogjpgoaaaa", sum := "d692103b6298455647a631c4a3cf9827e403ef8794018f55a7ec220cd9a093ec", func := "demurral/demurrallaw02.LadderShares", spec := "ladderShares", inPlace := ["math/bits.Add64", "math/bits.Sub64"], unfollowed := true, recurses := true, apart := false }
def LadderSharesSaid : Prop := ladderSharesRow.holds Try.pinned (OpenSpec.ofChange ladderSharesSpec)

/-- ITS FALSE NEIGHBOUR: 'it returns false'. Refute it at one input. -/
def ladderSharesWrong : ChangeSpec := { name := "ladderShares", fn := fun _ => fun
  | [d1, d2] => { results := [.lit (.bool false)], args := [d1, d2] }
  | _ => none }
def LadderSharesWrongFalsely : Prop := ladderSharesRow.holds Try.pinned (OpenSpec.ofChange ladderSharesWrong)

/- THE SECOND FORM. 'bulk': how many values and letters a reading holds, each counted each time it is reached (what is shared counts as often as it is met; a slice's spare places count too). A statement '..UptoSaid' is the law's where the arguments, and the package variables that the reading takes, are together of bulk at most 1048576: NARROWER than '..Said'. Prove '..Said' where nothing that the law and all that it calls make is longer than what came in: it says more and counts as full. Else prove '..UptoSaid'. A law counts once. -/
mutual
def uptoBulk {H : Type} : DataW H → Nat
  | .lit (.string bytes) => bytes.length + 1
  | .lit _ => 1
  | .nil => 1
  | .ptr d => uptoBulk d + 1
  | .slice elems spare => uptoBulkAll elems + uptoBulkAll spare + 1
  | .agg parts => uptoBulkAll parts + 1
  | .iface _ d => uptoBulk d + 1
  | .map entries => uptoBulkEntries entries + 1
  | .held _ => 1
def uptoBulkAll {H : Type} : List (DataW H) → Nat
  | [] => 0
  | d :: r => uptoBulk d + uptoBulkAll r
def uptoBulkEntries {H : Type} : List (Lit × DataW H) → Nat
  | [] => 0
  | x :: r => uptoBulkEntry x + uptoBulkEntries r
def uptoBulkEntry {H : Type} : Lit × DataW H → Nat
  | (.string bytes, d) => bytes.length + uptoBulk d + 1
  | (_, d) => uptoBulk d + 1
 end
def uptoSmall : (H : Type) → List (DataW H) → Bool := fun _ ds => decide (uptoBulkAll ds ≤ 1048576)
def OpenSpec.upto (s : _root_.Go.ChangeSpec) : _root_.Go.OpenSpec := { _root_.Go.OpenSpec.ofChange s with cond := some uptoSmall }

/-- 'demurrallaw01.LimbInverses', WHERE WHAT IT READS IS OF BULK AT MOST 1048576: true; the input reads as it did. -/
def limbInversesUptoRow : OpenClaim := { program := "ytdmpnogjpgoaaaa", sum := "d692103b6298455647a631c4a3cf9827e403ef8794018f55a7ec220cd9a093ec", func := "demurral/demurrallaw01.LimbInverses", spec := "limbInverses", inPlace := ["math/bits.Add64", "math/bits.Sub64"], apart := false, narrowed := true }
def LimbInversesUptoSaid : Prop := limbInversesUptoRow.holds Try.pinned (OpenSpec.upto limbInversesSpec)

/-- 'demurrallaw01.LimbTells', WHERE WHAT IT READS IS OF BULK AT MOST 1048576: true; the input reads as it did. -/
def limbTellsUptoRow : OpenClaim := { program := "ytdmpnogjpgoaaaa", sum := "d692103b6298455647a631c4a3cf9827e403ef8794018f55a7ec220cd9a093ec", func := "demurral/demurrallaw01.LimbTells", spec := "limbTells", inPlace := ["math/bits.Add64", "math/bits.Sub64"], apart := false, narrowed := true }
def LimbTellsUptoSaid : Prop := limbTellsUptoRow.holds Try.pinned (OpenSpec.upto limbTellsSpec)

/-- 'demurrallaw01.LimbField', WHERE WHAT IT READS IS OF BULK AT MOST 1048576: true; the input reads as it did. -/
def limbFieldUptoRow : OpenClaim := { program := "ytdmpnogjpgoaaaa", sum := "d692103b6298455647a631c4a3cf9827e403ef8794018f55a7ec220cd9a093ec", func := "demurral/demurrallaw01.LimbField", spec := "limbField", inPlace := ["math/bits.Add64", "math/bits.Sub64"], unfollowed := true, recurses := true, apart := false, narrowed := true }
def LimbFieldUptoSaid : Prop := limbFieldUptoRow.holds Try.pinned (OpenSpec.upto limbFieldSpec)

/-- 'demurrallaw08.FramePuts', WHERE WHAT IT READS IS OF BULK AT MOST 1048576: true; the input reads as it did. -/
def framePutsUptoRow : OpenClaim := { program := "ytdmpnogjpgoaaaa", sum := "d692103b6298455647a631c4a3cf9827e403ef8794018f55a7ec220cd9a093ec", func := "demurral/demurrallaw08.FramePuts", spec := "framePuts", inPlace := ["internal/abi.NoEscape"], unfollowed := true, recurses := true, apart := false, narrowed := true }
def FramePutsUptoSaid : Prop := framePutsUptoRow.holds Try.pinned (OpenSpec.upto framePutsSpec)

/-- 'demurrallaw14.RevealTakes', WHERE WHAT IT READS IS OF BULK AT MOST 1048576: true; the input reads as it did. -/
def revealTakesUptoRow : OpenClaim := { program := "ytdmpnogjpgoaaaa", sum := "d692103b6298455647a631c4a3cf9827e403ef8794018f55a7ec220cd9a093ec", func := "demurral/demurrallaw14.RevealTakes", spec := "revealTakes", unfollowed := true, recurses := true, apart := false, narrowed := true }
def RevealTakesUptoSaid : Prop := revealTakesUptoRow.holds Try.pinned (OpenSpec.upto revealTakesSpec)

/-- 'demurrallaw02.LadderClamps', WHERE WHAT IT READS IS OF BULK AT MOST 1048576: true; the input reads as it did. -/
def ladderClampsUptoRow : OpenClaim := { program := "ytdmpnogjpgoaaaa", sum := "d692103b6298455647a631c4a3cf9827e403ef8794018f55a7ec220cd9a093ec", func := "demurral/demurrallaw02.LadderClamps", spec := "ladderClamps", inPlace := ["math/bits.Add64", "math/bits.Sub64"], unfollowed := true, recurses := true, apart := false, narrowed := true }
def LadderClampsUptoSaid : Prop := ladderClampsUptoRow.holds Try.pinned (OpenSpec.upto ladderClampsSpec)

/-- 'demurrallaw02.LadderMults', WHERE WHAT IT READS IS OF BULK AT MOST 1048576: true; the input reads as it did. -/
def ladderMultsUptoRow : OpenClaim := { program := "ytdmpnogjpgoaaaa", sum := "d692103b6298455647a631c4a3cf9827e403ef8794018f55a7ec220cd9a093ec", func := "demurral/demurrallaw02.LadderMults", spec := "ladderMults", inPlace := ["math/bits.Add64", "math/bits.Sub64"], unfollowed := true, recurses := true, apart := false, narrowed := true }
def LadderMultsUptoSaid : Prop := ladderMultsUptoRow.holds Try.pinned (OpenSpec.upto ladderMultsSpec)

/-- 'demurrallaw02.LadderShares', WHERE WHAT IT READS IS OF BULK AT MOST 1048576: true; the input reads as it did. -/
def ladderSharesUptoRow : OpenClaim := { program := "ytdmpnogjpgoaaaa", sum := "d692103b6298455647a631c4a3cf9827e403ef8794018f55a7ec220cd9a093ec", func := "demurral/demurrallaw02.LadderShares", spec := "ladderShares", inPlace := ["math/bits.Add64", "math/bits.Sub64"], unfollowed := true, recurses := true, apart := false, narrowed := true }
def LadderSharesUptoSaid : Prop := ladderSharesUptoRow.holds Try.pinned (OpenSpec.upto ladderSharesSpec)

end Rows
end Go.Proofs.Ytdmpnogjpgoaaaa

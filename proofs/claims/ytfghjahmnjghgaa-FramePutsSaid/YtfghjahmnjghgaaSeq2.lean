import Derived.Test.YtfghjahmnjghgaaSeq
/-! More words over Seq. -/
namespace Go.Proofs.Ytfghjahmnjghgaa
open Go.RowKit
/-- what was put to an operation's slot, the slot written out -/
theorem at_dst {P : Program} {md : Region.Mode} {ops : Array Oper} {Q : Exit → Act → World → Prop} {ds : List Nat} {B : Nat} {D : List DIt} {Lt : List Nat} {fuel : Nat} {l : Array Bool} {a : Act} {v : Value} {w : World} {M : Option Tmp} (N : Option Tmp) (h : M = N)
    (hk : wpB P md ops Q ds B D Lt fuel l (a.put N v) w) : wpB P md ops Q ds B D Lt fuel l (a.put M v) w := h ▸ hk
end Go.Proofs.Ytfghjahmnjghgaa

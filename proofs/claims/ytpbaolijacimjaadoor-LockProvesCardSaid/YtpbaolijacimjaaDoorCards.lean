/-
  DERIVED. GIVEN WITH THE SEED: THE CARDS: each row of YtpbaolijacimjaaDoorRows.lean that lists a variable, with what it lists TIED to the program's text (the seventh form; the later family's looks); each row that meets fmt, with fmt's text TOLD by the authors' own Lean function (tested against real Go, not proved from fmt's source: count such statements apart). THE CARD IS WHAT COUNTS. Prove the row's statement (the work); the ties are given (YtpbaolijacimjaaDoorTie.lean); close each card by the builder's one call (the guide's Derived/Test/ToyasCard.lean, 'card_holds'). Laid BY PROGRAM, IN A SANDBOX (cutbox-door.mjs). By AI agents, Wed Nov 11 2026. No macro, syntax, notation, axiom, sorry.
-/
import Derived.Test.YtpbaolijacimjaaDoorRows
import GoSem.ClaimSeven
namespace Go.Proofs.YtpbaolijacimjaaDoor
namespace Rows

/-- THE TIED CARD OF 'demurrallaw06.LockOpens'. -/
def lockOpensCard : Claim7 := { stood := { row := lockOpensRow, standIns := [], harness := (true, "a1117d8582c7f4ff55069d99082270bbdfd41e04d85693a0d83d8d5579227103"), looks := false }, kinds := [], alts := [], laidByText := true, laidKinds := [.data], laidTests := true, laidLooks := .later }
def LockOpensCardSaid : Prop := Claim7.holds Tryd.pinned (.plain (OpenSpec.ofChange lockOpensSpec)) lockOpensCard

/-- THE TIED CARD OF 'demurrallaw06.LockTells'. -/
def lockTellsCard : Claim7 := { stood := { row := lockTellsRow, standIns := [], harness := (true, "a1117d8582c7f4ff55069d99082270bbdfd41e04d85693a0d83d8d5579227103"), looks := false }, kinds := [], alts := [], laidByText := true, laidKinds := [.data], laidTests := true, laidLooks := .later }
def LockTellsCardSaid : Prop := Claim7.holds Tryd.pinned (.plain (OpenSpec.ofChange lockTellsSpec)) lockTellsCard

/-- THE TIED CARD OF 'demurrallaw06.LockProves'. -/
def lockProvesCard : Claim7 := { stood := { row := lockProvesRow, standIns := [], harness := (true, "a1117d8582c7f4ff55069d99082270bbdfd41e04d85693a0d83d8d5579227103"), looks := false }, kinds := [], alts := [], laidByText := true, laidKinds := [.data], laidTests := true, laidLooks := .later }
def LockProvesCardSaid : Prop := Claim7.holds Tryd.pinned (.plain (OpenSpec.ofChange lockProvesSpec)) lockProvesCard

/-- THE TIED CARD OF 'demurrallaw14.RevealCovers'. -/
def revealCoversCard : Claim7 := { stood := { row := revealCoversRow, standIns := [], harness := (true, "a1117d8582c7f4ff55069d99082270bbdfd41e04d85693a0d83d8d5579227103"), looks := false }, kinds := [], alts := [], laidByText := true, laidKinds := [.data], laidTests := true, laidLooks := .later }
def RevealCoversCardSaid : Prop := Claim7.holds Tryd.pinned (.plain (OpenSpec.ofChange revealCoversSpec)) revealCoversCard

/-- THE SECOND FORM's CARD OF 'demurrallaw06.LockOpens'. -/
def lockOpensUptoCard : Claim7 := { stood := { row := lockOpensUptoRow, standIns := [], harness := (true, "a1117d8582c7f4ff55069d99082270bbdfd41e04d85693a0d83d8d5579227103"), looks := false }, kinds := [], alts := [], laidByText := true, laidKinds := [.data], laidTests := true, laidLooks := .later }
def LockOpensUptoCardSaid : Prop := Claim7.holds Tryd.pinned (.plain (OpenSpec.upto lockOpensSpec)) lockOpensUptoCard

/-- THE SECOND FORM's CARD OF 'demurrallaw06.LockTells'. -/
def lockTellsUptoCard : Claim7 := { stood := { row := lockTellsUptoRow, standIns := [], harness := (true, "a1117d8582c7f4ff55069d99082270bbdfd41e04d85693a0d83d8d5579227103"), looks := false }, kinds := [], alts := [], laidByText := true, laidKinds := [.data], laidTests := true, laidLooks := .later }
def LockTellsUptoCardSaid : Prop := Claim7.holds Tryd.pinned (.plain (OpenSpec.upto lockTellsSpec)) lockTellsUptoCard

/-- THE SECOND FORM's CARD OF 'demurrallaw06.LockProves'. -/
def lockProvesUptoCard : Claim7 := { stood := { row := lockProvesUptoRow, standIns := [], harness := (true, "a1117d8582c7f4ff55069d99082270bbdfd41e04d85693a0d83d8d5579227103"), looks := false }, kinds := [], alts := [], laidByText := true, laidKinds := [.data], laidTests := true, laidLooks := .later }
def LockProvesUptoCardSaid : Prop := Claim7.holds Tryd.pinned (.plain (OpenSpec.upto lockProvesSpec)) lockProvesUptoCard

/-- THE SECOND FORM's CARD OF 'demurrallaw14.RevealCovers'. -/
def revealCoversUptoCard : Claim7 := { stood := { row := revealCoversUptoRow, standIns := [], harness := (true, "a1117d8582c7f4ff55069d99082270bbdfd41e04d85693a0d83d8d5579227103"), looks := false }, kinds := [], alts := [], laidByText := true, laidKinds := [.data], laidTests := true, laidLooks := .later }
def RevealCoversUptoCardSaid : Prop := Claim7.holds Tryd.pinned (.plain (OpenSpec.upto revealCoversSpec)) revealCoversUptoCard
end Rows
end Go.Proofs.YtpbaolijacimjaaDoor

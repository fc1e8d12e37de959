/-
  DERIVED. GIVEN WITH THE SEED: THE CARDS: each row of YtpafocjmheemjaaDoorRows.lean that lists a variable, with what it lists TIED to the program's text (the seventh form; the later family's looks); each row that meets fmt, with fmt's text TOLD by the authors' own Lean function (tested against real Go, not proved from fmt's source: count such statements apart). THE CARD IS WHAT COUNTS. Prove the row's statement (the work); the ties are given (YtpafocjmheemjaaDoorTie.lean); close each card by the builder's one call (the guide's Derived/Test/ToyasCard.lean, 'card_holds'). Laid BY PROGRAM, IN A SANDBOX (cutbox-door.mjs). By AI agents, Wed Nov 11 2026. No macro, syntax, notation, axiom, sorry.
-/
import Derived.Test.YtpafocjmheemjaaDoorRows
import GoSem.ClaimSeven
namespace Go.Proofs.YtpafocjmheemjaaDoor
namespace Rows

/-- THE TIED CARD OF 'demurrallaw03.DigestSums'. -/
def digestSumsCard : Claim7 := { stood := { row := digestSumsRow, standIns := [], harness := (true, "0ee73486aad51fd004178a735fe4cbc6fe0ea29fc0cd00d0be7592106335d79f"), looks := false }, kinds := [], alts := [], laidByText := true, laidKinds := [.data], laidTests := true, laidLooks := .later }
def DigestSumsCardSaid : Prop := Claim7.holds Tryd.pinned (.plain (OpenSpec.ofChange digestSumsSpec)) digestSumsCard

/-- THE TIED CARD OF 'demurrallaw03.DigestParts'. -/
def digestPartsCard : Claim7 := { stood := { row := digestPartsRow, standIns := [], harness := (true, "0ee73486aad51fd004178a735fe4cbc6fe0ea29fc0cd00d0be7592106335d79f"), looks := false }, kinds := [], alts := [], laidByText := true, laidKinds := [.data], laidTests := true, laidLooks := .later }
def DigestPartsCardSaid : Prop := Claim7.holds Tryd.pinned (.plain (OpenSpec.ofChange digestPartsSpec)) digestPartsCard

/-- THE TIED CARD OF 'demurrallaw03.DigestNew'. -/
def digestNewCard : Claim7 := { stood := { row := digestNewRow, standIns := [], harness := (true, "0ee73486aad51fd004178a735fe4cbc6fe0ea29fc0cd00d0be7592106335d79f"), looks := false }, kinds := [], alts := [], laidByText := true, laidKinds := [.data], laidTests := true, laidLooks := .later }
def DigestNewCardSaid : Prop := Claim7.holds Tryd.pinned (.plain (OpenSpec.ofChange digestNewSpec)) digestNewCard

/-- THE TIED CARD OF 'demurrallaw03.DigestTexts'. -/
def digestTextsCard : Claim7 := { stood := { row := digestTextsRow, standIns := [], harness := (true, "0ee73486aad51fd004178a735fe4cbc6fe0ea29fc0cd00d0be7592106335d79f"), looks := false }, kinds := [], alts := [], laidByText := true, laidKinds := [.data], laidTests := true, laidLooks := .later }
def DigestTextsCardSaid : Prop := Claim7.holds Tryd.pinned (.plain (OpenSpec.ofChange digestTextsSpec)) digestTextsCard

/-- THE TIED CARD OF 'demurrallaw04.DeriveTags'. -/
def deriveTagsCard : Claim7 := { stood := { row := deriveTagsRow, standIns := [], harness := (true, "0ee73486aad51fd004178a735fe4cbc6fe0ea29fc0cd00d0be7592106335d79f"), looks := false }, kinds := [], alts := [], laidByText := true, laidKinds := [.data], laidTests := true, laidLooks := .later }
def DeriveTagsCardSaid : Prop := Claim7.holds Tryd.pinned (.plain (OpenSpec.ofChange deriveTagsSpec)) deriveTagsCard

/-- THE TIED CARD OF 'demurrallaw04.DeriveExpands'. -/
def deriveExpandsCard : Claim7 := { stood := { row := deriveExpandsRow, standIns := [], harness := (true, "0ee73486aad51fd004178a735fe4cbc6fe0ea29fc0cd00d0be7592106335d79f"), looks := false }, kinds := [], alts := [], laidByText := true, laidKinds := [.data], laidTests := true, laidLooks := .later }
def DeriveExpandsCardSaid : Prop := Claim7.holds Tryd.pinned (.plain (OpenSpec.ofChange deriveExpandsSpec)) deriveExpandsCard

/-- THE TIED CARD OF 'demurrallaw10.ChainSteps'. -/
def chainStepsCard : Claim7 := { stood := { row := chainStepsRow, standIns := [], harness := (true, "0ee73486aad51fd004178a735fe4cbc6fe0ea29fc0cd00d0be7592106335d79f"), looks := false }, kinds := [], alts := [], laidByText := true, laidKinds := [.data], laidTests := true, laidLooks := .later }
def ChainStepsCardSaid : Prop := Claim7.holds Tryd.pinned (.plain (OpenSpec.ofChange chainStepsSpec)) chainStepsCard

/-- THE TIED CARD OF 'demurrallaw04.DeriveBegins'. -/
def deriveBeginsCard : Claim7 := { stood := { row := deriveBeginsRow, standIns := [], harness := (true, "0ee73486aad51fd004178a735fe4cbc6fe0ea29fc0cd00d0be7592106335d79f"), looks := false }, kinds := [], alts := [], laidByText := true, laidKinds := [.data], laidTests := true, laidLooks := .later }
def DeriveBeginsCardSaid : Prop := Claim7.holds Tryd.pinned (.plain (OpenSpec.ofChange deriveBeginsSpec)) deriveBeginsCard

/-- THE TIED CARD OF 'demurrallaw10.ChainRuns'. -/
def chainRunsCard : Claim7 := { stood := { row := chainRunsRow, standIns := [], harness := (true, "0ee73486aad51fd004178a735fe4cbc6fe0ea29fc0cd00d0be7592106335d79f"), looks := false }, kinds := [], alts := [], laidByText := true, laidKinds := [.data], laidTests := true, laidLooks := .later }
def ChainRunsCardSaid : Prop := Claim7.holds Tryd.pinned (.plain (OpenSpec.ofChange chainRunsSpec)) chainRunsCard

/-- THE TIED CARD OF 'demurrallaw10.ChainGoes'. -/
def chainGoesCard : Claim7 := { stood := { row := chainGoesRow, standIns := [], harness := (true, "0ee73486aad51fd004178a735fe4cbc6fe0ea29fc0cd00d0be7592106335d79f"), looks := false }, kinds := [], alts := [], laidByText := true, laidKinds := [.data], laidTests := true, laidLooks := .later }
def ChainGoesCardSaid : Prop := Claim7.holds Tryd.pinned (.plain (OpenSpec.ofChange chainGoesSpec)) chainGoesCard

/-- THE TIED CARD OF 'demurrallaw12.SkippedFills'. -/
def skippedFillsCard : Claim7 := { stood := { row := skippedFillsRow, standIns := [], harness := (true, "0ee73486aad51fd004178a735fe4cbc6fe0ea29fc0cd00d0be7592106335d79f"), looks := false }, kinds := [], alts := [], laidByText := true, laidKinds := [.data], laidTests := true, laidLooks := .later }
def SkippedFillsCardSaid : Prop := Claim7.holds Tryd.pinned (.plain (OpenSpec.ofChange skippedFillsSpec)) skippedFillsCard

/-- THE TIED CARD OF 'demurrallaw12.SkippedParts'. -/
def skippedPartsCard : Claim7 := { stood := { row := skippedPartsRow, standIns := [], harness := (true, "0ee73486aad51fd004178a735fe4cbc6fe0ea29fc0cd00d0be7592106335d79f"), looks := false }, kinds := [], alts := [], laidByText := true, laidKinds := [.data], laidTests := true, laidLooks := .later }
def SkippedPartsCardSaid : Prop := Claim7.holds Tryd.pinned (.plain (OpenSpec.ofChange skippedPartsSpec)) skippedPartsCard

/-- THE SECOND FORM's CARD OF 'demurrallaw03.DigestSums'. -/
def digestSumsUptoCard : Claim7 := { stood := { row := digestSumsUptoRow, standIns := [], harness := (true, "0ee73486aad51fd004178a735fe4cbc6fe0ea29fc0cd00d0be7592106335d79f"), looks := false }, kinds := [], alts := [], laidByText := true, laidKinds := [.data], laidTests := true, laidLooks := .later }
def DigestSumsUptoCardSaid : Prop := Claim7.holds Tryd.pinned (.plain (OpenSpec.upto digestSumsSpec)) digestSumsUptoCard

/-- THE SECOND FORM's CARD OF 'demurrallaw03.DigestParts'. -/
def digestPartsUptoCard : Claim7 := { stood := { row := digestPartsUptoRow, standIns := [], harness := (true, "0ee73486aad51fd004178a735fe4cbc6fe0ea29fc0cd00d0be7592106335d79f"), looks := false }, kinds := [], alts := [], laidByText := true, laidKinds := [.data], laidTests := true, laidLooks := .later }
def DigestPartsUptoCardSaid : Prop := Claim7.holds Tryd.pinned (.plain (OpenSpec.upto digestPartsSpec)) digestPartsUptoCard

/-- THE SECOND FORM's CARD OF 'demurrallaw03.DigestNew'. -/
def digestNewUptoCard : Claim7 := { stood := { row := digestNewUptoRow, standIns := [], harness := (true, "0ee73486aad51fd004178a735fe4cbc6fe0ea29fc0cd00d0be7592106335d79f"), looks := false }, kinds := [], alts := [], laidByText := true, laidKinds := [.data], laidTests := true, laidLooks := .later }
def DigestNewUptoCardSaid : Prop := Claim7.holds Tryd.pinned (.plain (OpenSpec.upto digestNewSpec)) digestNewUptoCard

/-- THE SECOND FORM's CARD OF 'demurrallaw03.DigestTexts'. -/
def digestTextsUptoCard : Claim7 := { stood := { row := digestTextsUptoRow, standIns := [], harness := (true, "0ee73486aad51fd004178a735fe4cbc6fe0ea29fc0cd00d0be7592106335d79f"), looks := false }, kinds := [], alts := [], laidByText := true, laidKinds := [.data], laidTests := true, laidLooks := .later }
def DigestTextsUptoCardSaid : Prop := Claim7.holds Tryd.pinned (.plain (OpenSpec.upto digestTextsSpec)) digestTextsUptoCard

/-- THE SECOND FORM's CARD OF 'demurrallaw04.DeriveTags'. -/
def deriveTagsUptoCard : Claim7 := { stood := { row := deriveTagsUptoRow, standIns := [], harness := (true, "0ee73486aad51fd004178a735fe4cbc6fe0ea29fc0cd00d0be7592106335d79f"), looks := false }, kinds := [], alts := [], laidByText := true, laidKinds := [.data], laidTests := true, laidLooks := .later }
def DeriveTagsUptoCardSaid : Prop := Claim7.holds Tryd.pinned (.plain (OpenSpec.upto deriveTagsSpec)) deriveTagsUptoCard

/-- THE SECOND FORM's CARD OF 'demurrallaw04.DeriveExpands'. -/
def deriveExpandsUptoCard : Claim7 := { stood := { row := deriveExpandsUptoRow, standIns := [], harness := (true, "0ee73486aad51fd004178a735fe4cbc6fe0ea29fc0cd00d0be7592106335d79f"), looks := false }, kinds := [], alts := [], laidByText := true, laidKinds := [.data], laidTests := true, laidLooks := .later }
def DeriveExpandsUptoCardSaid : Prop := Claim7.holds Tryd.pinned (.plain (OpenSpec.upto deriveExpandsSpec)) deriveExpandsUptoCard

/-- THE SECOND FORM's CARD OF 'demurrallaw10.ChainSteps'. -/
def chainStepsUptoCard : Claim7 := { stood := { row := chainStepsUptoRow, standIns := [], harness := (true, "0ee73486aad51fd004178a735fe4cbc6fe0ea29fc0cd00d0be7592106335d79f"), looks := false }, kinds := [], alts := [], laidByText := true, laidKinds := [.data], laidTests := true, laidLooks := .later }
def ChainStepsUptoCardSaid : Prop := Claim7.holds Tryd.pinned (.plain (OpenSpec.upto chainStepsSpec)) chainStepsUptoCard

/-- THE SECOND FORM's CARD OF 'demurrallaw04.DeriveBegins'. -/
def deriveBeginsUptoCard : Claim7 := { stood := { row := deriveBeginsUptoRow, standIns := [], harness := (true, "0ee73486aad51fd004178a735fe4cbc6fe0ea29fc0cd00d0be7592106335d79f"), looks := false }, kinds := [], alts := [], laidByText := true, laidKinds := [.data], laidTests := true, laidLooks := .later }
def DeriveBeginsUptoCardSaid : Prop := Claim7.holds Tryd.pinned (.plain (OpenSpec.upto deriveBeginsSpec)) deriveBeginsUptoCard

/-- THE SECOND FORM's CARD OF 'demurrallaw10.ChainRuns'. -/
def chainRunsUptoCard : Claim7 := { stood := { row := chainRunsUptoRow, standIns := [], harness := (true, "0ee73486aad51fd004178a735fe4cbc6fe0ea29fc0cd00d0be7592106335d79f"), looks := false }, kinds := [], alts := [], laidByText := true, laidKinds := [.data], laidTests := true, laidLooks := .later }
def ChainRunsUptoCardSaid : Prop := Claim7.holds Tryd.pinned (.plain (OpenSpec.upto chainRunsSpec)) chainRunsUptoCard

/-- THE SECOND FORM's CARD OF 'demurrallaw10.ChainGoes'. -/
def chainGoesUptoCard : Claim7 := { stood := { row := chainGoesUptoRow, standIns := [], harness := (true, "0ee73486aad51fd004178a735fe4cbc6fe0ea29fc0cd00d0be7592106335d79f"), looks := false }, kinds := [], alts := [], laidByText := true, laidKinds := [.data], laidTests := true, laidLooks := .later }
def ChainGoesUptoCardSaid : Prop := Claim7.holds Tryd.pinned (.plain (OpenSpec.upto chainGoesSpec)) chainGoesUptoCard

/-- THE SECOND FORM's CARD OF 'demurrallaw12.SkippedFills'. -/
def skippedFillsUptoCard : Claim7 := { stood := { row := skippedFillsUptoRow, standIns := [], harness := (true, "0ee73486aad51fd004178a735fe4cbc6fe0ea29fc0cd00d0be7592106335d79f"), looks := false }, kinds := [], alts := [], laidByText := true, laidKinds := [.data], laidTests := true, laidLooks := .later }
def SkippedFillsUptoCardSaid : Prop := Claim7.holds Tryd.pinned (.plain (OpenSpec.upto skippedFillsSpec)) skippedFillsUptoCard

/-- THE SECOND FORM's CARD OF 'demurrallaw12.SkippedParts'. -/
def skippedPartsUptoCard : Claim7 := { stood := { row := skippedPartsUptoRow, standIns := [], harness := (true, "0ee73486aad51fd004178a735fe4cbc6fe0ea29fc0cd00d0be7592106335d79f"), looks := false }, kinds := [], alts := [], laidByText := true, laidKinds := [.data], laidTests := true, laidLooks := .later }
def SkippedPartsUptoCardSaid : Prop := Claim7.holds Tryd.pinned (.plain (OpenSpec.upto skippedPartsSpec)) skippedPartsUptoCard
end Rows
end Go.Proofs.YtpafocjmheemjaaDoor

/-
  NARROWER THAN 'FOR EVERY INPUT', by the rows' own cells (each row's printed sentence says how): DigestSums: laid · DigestParts: laid · DigestNew: laid · DigestTexts: laid · DeriveTags: laid · DeriveExpands: laid · ChainSteps: laid · DeriveBegins: laid · ChainRuns: laid · ChainGoes: laid · SkippedFills: laid · SkippedParts: laid.
  DERIVED. THE GIVEN ROWS OF THIS SEAT. 12 by the template 'for every input the law returns true; each argument reads behind the call as it read before'; 0 by the template 'total and deterministic' (their statements: YtpafocjmheemjaaDoorTotals.lean).
  GIVEN WITH THE SEED: the statements are not yours to turn. If you find one false, say at which input.
  Laid BY PROGRAM, IN A SANDBOX (cutbox-rows.mjs): the forced cells as the released guide's own fill.sh prints them over the translation 0aa4dfed45c71fc0… (all of the seat's roots in one cut). By AI agents, Wed Nov 11 2026. No macro, syntax, notation, axiom, sorry.
-/
import Derived.Test.YtpafocjmheemjaaDoorChecked
import GoSem.Claim
import GoSem.ClaimJoined
import GoSem.ClaimMapViews
import Derived.JoinedTies
import Derived.KernelRfl
namespace Go.Proofs.YtpafocjmheemjaaDoor
/- THE CELL 'sum', in the pinned program and in every row, IS THE sha256 OF THE DUMP (.gsa) THAT YtpafocjmheemjaaDoorProg.lean LOADS. Nothing in Lean hashes anything: it is a label: what it is worth is what the hold of that sum in a sandbox is worth. -/
noncomputable def Tryd.pinned : Pinned := { name := "ytpafocjmheemjaadoor", sum := "0aa4dfed45c71fc02918323dae641b8896454d7a956a6e1e053b280902d81444", checked := Tryd.checked }
namespace Rows
def none {H : Type} : Left H := { results := [], args := [] }

/- WHAT THE LISTED PACKAGE-LEVEL VARIABLES READ AS WHEN THE CALL BEGINS. Each datum BY PROGRAM (the guide's laid-datum.mjs) off the statement by which the dump's own 'gosem.cut.vars' lays the variable. In a bare row this is a premise. The card (YtpafocjmheemjaaDoorCards.lean) ties it to the program's text. -/
def laid_demurral_digest_keys {H : Type} : DataW H := .agg [.lit (.int .u32 1116352408), .lit (.int .u32 1899447441), .lit (.int .u32 3049323471), .lit (.int .u32 3921009573), .lit (.int .u32 961987163), .lit (.int .u32 1508970993), .lit (.int .u32 2453635748), .lit (.int .u32 2870763221), .lit (.int .u32 3624381080), .lit (.int .u32 310598401), .lit (.int .u32 607225278), .lit (.int .u32 1426881987), .lit (.int .u32 1925078388), .lit (.int .u32 2162078206), .lit (.int .u32 2614888103), .lit (.int .u32 3248222580), .lit (.int .u32 3835390401), .lit (.int .u32 4022224774), .lit (.int .u32 264347078), .lit (.int .u32 604807628), .lit (.int .u32 770255983), .lit (.int .u32 1249150122), .lit (.int .u32 1555081692), .lit (.int .u32 1996064986), .lit (.int .u32 2554220882), .lit (.int .u32 2821834349), .lit (.int .u32 2952996808), .lit (.int .u32 3210313671), .lit (.int .u32 3336571891), .lit (.int .u32 3584528711), .lit (.int .u32 113926993), .lit (.int .u32 338241895), .lit (.int .u32 666307205), .lit (.int .u32 773529912), .lit (.int .u32 1294757372), .lit (.int .u32 1396182291), .lit (.int .u32 1695183700), .lit (.int .u32 1986661051), .lit (.int .u32 2177026350), .lit (.int .u32 2456956037), .lit (.int .u32 2730485921), .lit (.int .u32 2820302411), .lit (.int .u32 3259730800), .lit (.int .u32 3345764771), .lit (.int .u32 3516065817), .lit (.int .u32 3600352804), .lit (.int .u32 4094571909), .lit (.int .u32 275423344), .lit (.int .u32 430227734), .lit (.int .u32 506948616), .lit (.int .u32 659060556), .lit (.int .u32 883997877), .lit (.int .u32 958139571), .lit (.int .u32 1322822218), .lit (.int .u32 1537002063), .lit (.int .u32 1747873779), .lit (.int .u32 1955562222), .lit (.int .u32 2024104815), .lit (.int .u32 2227730452), .lit (.int .u32 2361852424), .lit (.int .u32 2428436474), .lit (.int .u32 2756734187), .lit (.int .u32 3204031479), .lit (.int .u32 3329325298)]

/-- 'demurrallaw03.DigestSums': WHATEVER THE INPUT: true; the input reads as it did. -/
def digestSumsSpec : ChangeSpec := { name := "digestSums", fn := fun _ => fun
  | [d1, d2] => { results := [.lit (.bool true)], args := [d1, d2] }
  | _ => none }
def digestSumsRow : OpenClaim := { program := "ytpafocjmheemjaadoor", sum := "0aa4dfed45c71fc02918323dae641b8896454d7a956a6e1e053b280902d81444", func := "demurral/demurrallaw03.DigestSums", spec := "digestSums", inPlace := ["internal/abi.NoEscape", "internal/bytealg.MakeNoZero"], named := ["demurral/digest.keys"], apart := false, laid := [("demurral/digest.keys", laid_demurral_digest_keys)] }
def DigestSumsSaid : Prop := digestSumsRow.holds Tryd.pinned (OpenSpec.ofChange digestSumsSpec)

/-- ITS FALSE NEIGHBOUR: 'it returns false'. Refute it at one input. -/
def digestSumsWrong : ChangeSpec := { name := "digestSums", fn := fun _ => fun
  | [d1, d2] => { results := [.lit (.bool false)], args := [d1, d2] }
  | _ => none }
def DigestSumsWrongFalsely : Prop := digestSumsRow.holds Tryd.pinned (OpenSpec.ofChange digestSumsWrong)

/-- 'demurrallaw03.DigestParts': WHATEVER THE INPUT: true; the input reads as it did. -/
def digestPartsSpec : ChangeSpec := { name := "digestParts", fn := fun _ => fun
  | [d1, d2, d3, d4] => { results := [.lit (.bool true)], args := [d1, d2, d3, d4] }
  | _ => none }
def digestPartsRow : OpenClaim := { program := "ytpafocjmheemjaadoor", sum := "0aa4dfed45c71fc02918323dae641b8896454d7a956a6e1e053b280902d81444", func := "demurral/demurrallaw03.DigestParts", spec := "digestParts", inPlace := ["internal/abi.NoEscape", "internal/bytealg.MakeNoZero"], named := ["demurral/digest.keys"], apart := false, laid := [("demurral/digest.keys", laid_demurral_digest_keys)] }
def DigestPartsSaid : Prop := digestPartsRow.holds Tryd.pinned (OpenSpec.ofChange digestPartsSpec)

/-- ITS FALSE NEIGHBOUR: 'it returns false'. Refute it at one input. -/
def digestPartsWrong : ChangeSpec := { name := "digestParts", fn := fun _ => fun
  | [d1, d2, d3, d4] => { results := [.lit (.bool false)], args := [d1, d2, d3, d4] }
  | _ => none }
def DigestPartsWrongFalsely : Prop := digestPartsRow.holds Tryd.pinned (OpenSpec.ofChange digestPartsWrong)

/-- 'demurrallaw03.DigestNew': WHATEVER THE INPUT: true; the input reads as it did. -/
def digestNewSpec : ChangeSpec := { name := "digestNew", fn := fun _ => fun
  | [d1, d2] => { results := [.lit (.bool true)], args := [d1, d2] }
  | _ => none }
def digestNewRow : OpenClaim := { program := "ytpafocjmheemjaadoor", sum := "0aa4dfed45c71fc02918323dae641b8896454d7a956a6e1e053b280902d81444", func := "demurral/demurrallaw03.DigestNew", spec := "digestNew", inPlace := ["internal/abi.NoEscape", "internal/bytealg.MakeNoZero"], named := ["demurral/digest.keys"], apart := false, laid := [("demurral/digest.keys", laid_demurral_digest_keys)] }
def DigestNewSaid : Prop := digestNewRow.holds Tryd.pinned (OpenSpec.ofChange digestNewSpec)

/-- ITS FALSE NEIGHBOUR: 'it returns false'. Refute it at one input. -/
def digestNewWrong : ChangeSpec := { name := "digestNew", fn := fun _ => fun
  | [d1, d2] => { results := [.lit (.bool false)], args := [d1, d2] }
  | _ => none }
def DigestNewWrongFalsely : Prop := digestNewRow.holds Tryd.pinned (OpenSpec.ofChange digestNewWrong)

/-- 'demurrallaw03.DigestTexts': WHATEVER THE INPUT: true; the input reads as it did. -/
def digestTextsSpec : ChangeSpec := { name := "digestTexts", fn := fun _ => fun
  | [d1, d2, d3] => { results := [.lit (.bool true)], args := [d1, d2, d3] }
  | _ => none }
def digestTextsRow : OpenClaim := { program := "ytpafocjmheemjaadoor", sum := "0aa4dfed45c71fc02918323dae641b8896454d7a956a6e1e053b280902d81444", func := "demurral/demurrallaw03.DigestTexts", spec := "digestTexts", inPlace := ["internal/abi.NoEscape", "internal/bytealg.MakeNoZero"], named := ["demurral/digest.keys"], apart := false, laid := [("demurral/digest.keys", laid_demurral_digest_keys)] }
def DigestTextsSaid : Prop := digestTextsRow.holds Tryd.pinned (OpenSpec.ofChange digestTextsSpec)

/-- ITS FALSE NEIGHBOUR: 'it returns false'. Refute it at one input. -/
def digestTextsWrong : ChangeSpec := { name := "digestTexts", fn := fun _ => fun
  | [d1, d2, d3] => { results := [.lit (.bool false)], args := [d1, d2, d3] }
  | _ => none }
def DigestTextsWrongFalsely : Prop := digestTextsRow.holds Tryd.pinned (OpenSpec.ofChange digestTextsWrong)

/-- 'demurrallaw04.DeriveTags': WHATEVER THE INPUT: true; the input reads as it did. -/
def deriveTagsSpec : ChangeSpec := { name := "deriveTags", fn := fun _ => fun
  | [d1, d2, d3] => { results := [.lit (.bool true)], args := [d1, d2, d3] }
  | _ => none }
def deriveTagsRow : OpenClaim := { program := "ytpafocjmheemjaadoor", sum := "0aa4dfed45c71fc02918323dae641b8896454d7a956a6e1e053b280902d81444", func := "demurral/demurrallaw04.DeriveTags", spec := "deriveTags", inPlace := ["internal/abi.NoEscape", "internal/bytealg.MakeNoZero"], named := ["demurral/digest.keys"], apart := false, laid := [("demurral/digest.keys", laid_demurral_digest_keys)] }
def DeriveTagsSaid : Prop := deriveTagsRow.holds Tryd.pinned (OpenSpec.ofChange deriveTagsSpec)

/-- ITS FALSE NEIGHBOUR: 'it returns false'. Refute it at one input. -/
def deriveTagsWrong : ChangeSpec := { name := "deriveTags", fn := fun _ => fun
  | [d1, d2, d3] => { results := [.lit (.bool false)], args := [d1, d2, d3] }
  | _ => none }
def DeriveTagsWrongFalsely : Prop := deriveTagsRow.holds Tryd.pinned (OpenSpec.ofChange deriveTagsWrong)

/-- 'demurrallaw04.DeriveExpands': WHATEVER THE INPUT: true; the input reads as it did. -/
def deriveExpandsSpec : ChangeSpec := { name := "deriveExpands", fn := fun _ => fun
  | [d1, d2, d3] => { results := [.lit (.bool true)], args := [d1, d2, d3] }
  | _ => none }
def deriveExpandsRow : OpenClaim := { program := "ytpafocjmheemjaadoor", sum := "0aa4dfed45c71fc02918323dae641b8896454d7a956a6e1e053b280902d81444", func := "demurral/demurrallaw04.DeriveExpands", spec := "deriveExpands", inPlace := ["internal/abi.NoEscape", "internal/bytealg.MakeNoZero"], named := ["demurral/digest.keys"], apart := false, laid := [("demurral/digest.keys", laid_demurral_digest_keys)] }
def DeriveExpandsSaid : Prop := deriveExpandsRow.holds Tryd.pinned (OpenSpec.ofChange deriveExpandsSpec)

/-- ITS FALSE NEIGHBOUR: 'it returns false'. Refute it at one input. -/
def deriveExpandsWrong : ChangeSpec := { name := "deriveExpands", fn := fun _ => fun
  | [d1, d2, d3] => { results := [.lit (.bool false)], args := [d1, d2, d3] }
  | _ => none }
def DeriveExpandsWrongFalsely : Prop := deriveExpandsRow.holds Tryd.pinned (OpenSpec.ofChange deriveExpandsWrong)

/-- 'demurrallaw10.ChainSteps': WHATEVER THE INPUT: true; the input reads as it did. -/
def chainStepsSpec : ChangeSpec := { name := "chainSteps", fn := fun _ => fun
  | [d1, d2, d3] => { results := [.lit (.bool true)], args := [d1, d2, d3] }
  | _ => none }
def chainStepsRow : OpenClaim := { program := "ytpafocjmheemjaadoor", sum := "0aa4dfed45c71fc02918323dae641b8896454d7a956a6e1e053b280902d81444", func := "demurral/demurrallaw10.ChainSteps", spec := "chainSteps", inPlace := ["internal/abi.NoEscape", "internal/bytealg.MakeNoZero"], named := ["demurral/digest.keys"], apart := false, laid := [("demurral/digest.keys", laid_demurral_digest_keys)] }
def ChainStepsSaid : Prop := chainStepsRow.holds Tryd.pinned (OpenSpec.ofChange chainStepsSpec)

/-- ITS FALSE NEIGHBOUR: 'it returns false'. Refute it at one input. -/
def chainStepsWrong : ChangeSpec := { name := "chainSteps", fn := fun _ => fun
  | [d1, d2, d3] => { results := [.lit (.bool false)], args := [d1, d2, d3] }
  | _ => none }
def ChainStepsWrongFalsely : Prop := chainStepsRow.holds Tryd.pinned (OpenSpec.ofChange chainStepsWrong)

/-- 'demurrallaw04.DeriveBegins': WHATEVER THE INPUT: true; the input reads as it did. -/
def deriveBeginsSpec : ChangeSpec := { name := "deriveBegins", fn := fun _ => fun
  | [d1, d2, d3, d4] => { results := [.lit (.bool true)], args := [d1, d2, d3, d4] }
  | _ => none }
def deriveBeginsRow : OpenClaim := { program := "ytpafocjmheemjaadoor", sum := "0aa4dfed45c71fc02918323dae641b8896454d7a956a6e1e053b280902d81444", func := "demurral/demurrallaw04.DeriveBegins", spec := "deriveBegins", inPlace := ["internal/abi.NoEscape", "internal/bytealg.MakeNoZero"], named := ["demurral/digest.keys"], apart := false, laid := [("demurral/digest.keys", laid_demurral_digest_keys)] }
def DeriveBeginsSaid : Prop := deriveBeginsRow.holds Tryd.pinned (OpenSpec.ofChange deriveBeginsSpec)

/-- ITS FALSE NEIGHBOUR: 'it returns false'. Refute it at one input. -/
def deriveBeginsWrong : ChangeSpec := { name := "deriveBegins", fn := fun _ => fun
  | [d1, d2, d3, d4] => { results := [.lit (.bool false)], args := [d1, d2, d3, d4] }
  | _ => none }
def DeriveBeginsWrongFalsely : Prop := deriveBeginsRow.holds Tryd.pinned (OpenSpec.ofChange deriveBeginsWrong)

/-- 'demurrallaw10.ChainRuns': WHATEVER THE INPUT: true; the input reads as it did. -/
def chainRunsSpec : ChangeSpec := { name := "chainRuns", fn := fun _ => fun
  | [d1, d2] => { results := [.lit (.bool true)], args := [d1, d2] }
  | _ => none }
def chainRunsRow : OpenClaim := { program := "ytpafocjmheemjaadoor", sum := "0aa4dfed45c71fc02918323dae641b8896454d7a956a6e1e053b280902d81444", func := "demurral/demurrallaw10.ChainRuns", spec := "chainRuns", inPlace := ["internal/abi.NoEscape", "internal/bytealg.MakeNoZero"], unfollowed := true, recurses := true, named := ["demurral/digest.keys"], apart := false, laid := [("demurral/digest.keys", laid_demurral_digest_keys)] }
def ChainRunsSaid : Prop := chainRunsRow.holds Tryd.pinned (OpenSpec.ofChange chainRunsSpec)

/-- ITS FALSE NEIGHBOUR: 'it returns false'. Refute it at one input. -/
def chainRunsWrong : ChangeSpec := { name := "chainRuns", fn := fun _ => fun
  | [d1, d2] => { results := [.lit (.bool false)], args := [d1, d2] }
  | _ => none }
def ChainRunsWrongFalsely : Prop := chainRunsRow.holds Tryd.pinned (OpenSpec.ofChange chainRunsWrong)

/-- 'demurrallaw10.ChainGoes': WHATEVER THE INPUT: true; the input reads as it did. -/
def chainGoesSpec : ChangeSpec := { name := "chainGoes", fn := fun _ => fun
  | [d1, d2, d3] => { results := [.lit (.bool true)], args := [d1, d2, d3] }
  | _ => none }
def chainGoesRow : OpenClaim := { program := "ytpafocjmheemjaadoor", sum := "0aa4dfed45c71fc02918323dae641b8896454d7a956a6e1e053b280902d81444", func := "demurral/demurrallaw10.ChainGoes", spec := "chainGoes", inPlace := ["internal/abi.NoEscape", "internal/bytealg.MakeNoZero"], unfollowed := true, recurses := true, named := ["demurral/digest.keys"], apart := false, laid := [("demurral/digest.keys", laid_demurral_digest_keys)] }
def ChainGoesSaid : Prop := chainGoesRow.holds Tryd.pinned (OpenSpec.ofChange chainGoesSpec)

/-- ITS FALSE NEIGHBOUR: 'it returns false'. Refute it at one input. -/
def chainGoesWrong : ChangeSpec := { name := "chainGoes", fn := fun _ => fun
  | [d1, d2, d3] => { results := [.lit (.bool false)], args := [d1, d2, d3] }
  | _ => none }
def ChainGoesWrongFalsely : Prop := chainGoesRow.holds Tryd.pinned (OpenSpec.ofChange chainGoesWrong)

/-- 'demurrallaw12.SkippedFills': WHATEVER THE INPUT: true; the input reads as it did. -/
def skippedFillsSpec : ChangeSpec := { name := "skippedFills", fn := fun _ => fun
  | [d1, d2, d3, d4, d5] => { results := [.lit (.bool true)], args := [d1, d2, d3, d4, d5] }
  | _ => none }
def skippedFillsRow : OpenClaim := { program := "ytpafocjmheemjaadoor", sum := "0aa4dfed45c71fc02918323dae641b8896454d7a956a6e1e053b280902d81444", func := "demurral/demurrallaw12.SkippedFills", spec := "skippedFills", inPlace := ["internal/abi.NoEscape", "internal/bytealg.MakeNoZero"], unfollowed := true, recurses := true, named := ["demurral/digest.keys"], apart := false, laid := [("demurral/digest.keys", laid_demurral_digest_keys)] }
def SkippedFillsSaid : Prop := skippedFillsRow.holds Tryd.pinned (OpenSpec.ofChange skippedFillsSpec)

/-- ITS FALSE NEIGHBOUR: 'it returns false'. Refute it at one input. -/
def skippedFillsWrong : ChangeSpec := { name := "skippedFills", fn := fun _ => fun
  | [d1, d2, d3, d4, d5] => { results := [.lit (.bool false)], args := [d1, d2, d3, d4, d5] }
  | _ => none }
def SkippedFillsWrongFalsely : Prop := skippedFillsRow.holds Tryd.pinned (OpenSpec.ofChange skippedFillsWrong)

/-- 'demurrallaw12.SkippedParts': WHATEVER THE INPUT: true; the input reads as it did. -/
def skippedPartsSpec : ChangeSpec := { name := "skippedParts", fn := fun _ => fun
  | [d1, d2, d3, d4, d5, d6] => { results := [.lit (.bool true)], args := [d1, d2, d3, d4, d5, d6] }
  | _ => none }
def skippedPartsRow : OpenClaim := { program := "ytpafocjmheemjaadoor", sum := "0aa4dfed45c71fc02918323dae641b8896454d7a956a6e1e053b280902d81444", func := "demurral/demurrallaw12.SkippedParts", spec := "skippedParts", inPlace := ["internal/abi.NoEscape", "internal/bytealg.MakeNoZero"], unfollowed := true, recurses := true, named := ["demurral/digest.keys"], apart := false, laid := [("demurral/digest.keys", laid_demurral_digest_keys)] }
def SkippedPartsSaid : Prop := skippedPartsRow.holds Tryd.pinned (OpenSpec.ofChange skippedPartsSpec)

/-- ITS FALSE NEIGHBOUR: 'it returns false'. Refute it at one input. -/
def skippedPartsWrong : ChangeSpec := { name := "skippedParts", fn := fun _ => fun
  | [d1, d2, d3, d4, d5, d6] => { results := [.lit (.bool false)], args := [d1, d2, d3, d4, d5, d6] }
  | _ => none }
def SkippedPartsWrongFalsely : Prop := skippedPartsRow.holds Tryd.pinned (OpenSpec.ofChange skippedPartsWrong)

/- THE SECOND FORM. 'bulk': how many values and letters a reading holds, each counted each time it is reached (what is shared counts as often as it is met; a slice's spare places count too). A statement '..UptoSaid' is the law's where the arguments, and the package variables that the reading takes, are together of bulk at most 1048576: NARROWER than '..Said'. Prove '..Said' where nothing that the law and all that it calls make is longer than what came in: it says more and counts as full. Else prove '..UptoSaid'. A law counts once. -/
mutual
def uptoBulk {H : Type} : DataW H → Nat
  | .lit (.string bytes) => bytes.length + 1
  | .lit _ => 1
  | .nil => 1
  | .ptr d => uptoBulk d + 1
  | .slice elems spare => uptoBulkAll elems + uptoBulkAll spare + 1
  | .agg parts => uptoBulkAll parts + 1
  | .iface _ d => uptoBulk d + 1
  | .map entries => uptoBulkEntries entries + 1
  | .held _ => 1
def uptoBulkAll {H : Type} : List (DataW H) → Nat
  | [] => 0
  | d :: r => uptoBulk d + uptoBulkAll r
def uptoBulkEntries {H : Type} : List (Lit × DataW H) → Nat
  | [] => 0
  | x :: r => uptoBulkEntry x + uptoBulkEntries r
def uptoBulkEntry {H : Type} : Lit × DataW H → Nat
  | (.string bytes, d) => bytes.length + uptoBulk d + 1
  | (_, d) => uptoBulk d + 1
 end
def uptoSmall : (H : Type) → List (DataW H) → Bool := fun _ ds => decide (uptoBulkAll ds ≤ 1048576)
def OpenSpec.upto (s : _root_.Go.ChangeSpec) : _root_.Go.OpenSpec := { _root_.Go.OpenSpec.ofChange s with cond := some uptoSmall }

/-- 'demurrallaw03.DigestSums', WHERE WHAT IT READS IS OF BULK AT MOST 1048576: true; the input reads as it did. -/
def digestSumsUptoRow : OpenClaim := { program := "ytpafocjmheemjaadoor", sum := "0aa4dfed45c71fc02918323dae641b8896454d7a956a6e1e053b280902d81444", func := "demurral/demurrallaw03.DigestSums", spec := "digestSums", inPlace := ["internal/abi.NoEscape", "internal/bytealg.MakeNoZero"], named := ["demurral/digest.keys"], apart := false, laid := [("demurral/digest.keys", laid_demurral_digest_keys)], narrowed := true }
def DigestSumsUptoSaid : Prop := digestSumsUptoRow.holds Tryd.pinned (OpenSpec.upto digestSumsSpec)

/-- 'demurrallaw03.DigestParts', WHERE WHAT IT READS IS OF BULK AT MOST 1048576: true; the input reads as it did. -/
def digestPartsUptoRow : OpenClaim := { program := "ytpafocjmheemjaadoor", sum := "0aa4dfed45c71fc02918323dae641b8896454d7a956a6e1e053b280902d81444", func := "demurral/demurrallaw03.DigestParts", spec := "digestParts", inPlace := ["internal/abi.NoEscape", "internal/bytealg.MakeNoZero"], named := ["demurral/digest.keys"], apart := false, laid := [("demurral/digest.keys", laid_demurral_digest_keys)], narrowed := true }
def DigestPartsUptoSaid : Prop := digestPartsUptoRow.holds Tryd.pinned (OpenSpec.upto digestPartsSpec)

/-- 'demurrallaw03.DigestNew', WHERE WHAT IT READS IS OF BULK AT MOST 1048576: true; the input reads as it did. -/
def digestNewUptoRow : OpenClaim := { program := "ytpafocjmheemjaadoor", sum := "0aa4dfed45c71fc02918323dae641b8896454d7a956a6e1e053b280902d81444", func := "demurral/demurrallaw03.DigestNew", spec := "digestNew", inPlace := ["internal/abi.NoEscape", "internal/bytealg.MakeNoZero"], named := ["demurral/digest.keys"], apart := false, laid := [("demurral/digest.keys", laid_demurral_digest_keys)], narrowed := true }
def DigestNewUptoSaid : Prop := digestNewUptoRow.holds Tryd.pinned (OpenSpec.upto digestNewSpec)

/-- 'demurrallaw03.DigestTexts', WHERE WHAT IT READS IS OF BULK AT MOST 1048576: true; the input reads as it did. -/
def digestTextsUptoRow : OpenClaim := { program := "ytpafocjmheemjaadoor", sum := "0aa4dfed45c71fc02918323dae641b8896454d7a956a6e1e053b280902d81444", func := "demurral/demurrallaw03.DigestTexts", spec := "digestTexts", inPlace := ["internal/abi.NoEscape", "internal/bytealg.MakeNoZero"], named := ["demurral/digest.keys"], apart := false, laid := [("demurral/digest.keys", laid_demurral_digest_keys)], narrowed := true }
def DigestTextsUptoSaid : Prop := digestTextsUptoRow.holds Tryd.pinned (OpenSpec.upto digestTextsSpec)

/-- 'demurrallaw04.DeriveTags', WHERE WHAT IT READS IS OF BULK AT MOST 1048576: true; the input reads as it did. -/
def deriveTagsUptoRow : OpenClaim := { program := "ytpafocjmheemjaadoor", sum := "0aa4dfed45c71fc02918323dae641b8896454d7a956a6e1e053b280902d81444", func := "demurral/demurrallaw04.DeriveTags", spec := "deriveTags", inPlace := ["internal/abi.NoEscape", "internal/bytealg.MakeNoZero"], named := ["demurral/digest.keys"], apart := false, laid := [("demurral/digest.keys", laid_demurral_digest_keys)], narrowed := true }
def DeriveTagsUptoSaid : Prop := deriveTagsUptoRow.holds Tryd.pinned (OpenSpec.upto deriveTagsSpec)

/-- 'demurrallaw04.DeriveExpands', WHERE WHAT IT READS IS OF BULK AT MOST 1048576: true; the input reads as it did. -/
def deriveExpandsUptoRow : OpenClaim := { program := "ytpafocjmheemjaadoor", sum := "0aa4dfed45c71fc02918323dae641b8896454d7a956a6e1e053b280902d81444", func := "demurral/demurrallaw04.DeriveExpands", spec := "deriveExpands", inPlace := ["internal/abi.NoEscape", "internal/bytealg.MakeNoZero"], named := ["demurral/digest.keys"], apart := false, laid := [("demurral/digest.keys", laid_demurral_digest_keys)], narrowed := true }
def DeriveExpandsUptoSaid : Prop := deriveExpandsUptoRow.holds Tryd.pinned (OpenSpec.upto deriveExpandsSpec)

/-- 'demurrallaw10.ChainSteps', WHERE WHAT IT READS IS OF BULK AT MOST 1048576: true; the input reads as it did. -/
def chainStepsUptoRow : OpenClaim := { program := "ytpafocjmheemjaadoor", sum := "0aa4dfed45c71fc02918323dae641b8896454d7a956a6e1e053b280902d81444", func := "demurral/demurrallaw10.ChainSteps", spec := "chainSteps", inPlace := ["internal/abi.NoEscape", "internal/bytealg.MakeNoZero"], named := ["demurral/digest.keys"], apart := false, laid := [("demurral/digest.keys", laid_demurral_digest_keys)], narrowed := true }
def ChainStepsUptoSaid : Prop := chainStepsUptoRow.holds Tryd.pinned (OpenSpec.upto chainStepsSpec)

/-- 'demurrallaw04.DeriveBegins', WHERE WHAT IT READS IS OF BULK AT MOST 1048576: true; the input reads as it did. -/
def deriveBeginsUptoRow : OpenClaim := { program := "ytpafocjmheemjaadoor", sum := "0aa4dfed45c71fc02918323dae641b8896454d7a956a6e1e053b280902d81444", func := "demurral/demurrallaw04.DeriveBegins", spec := "deriveBegins", inPlace := ["internal/abi.NoEscape", "internal/bytealg.MakeNoZero"], named := ["demurral/digest.keys"], apart := false, laid := [("demurral/digest.keys", laid_demurral_digest_keys)], narrowed := true }
def DeriveBeginsUptoSaid : Prop := deriveBeginsUptoRow.holds Tryd.pinned (OpenSpec.upto deriveBeginsSpec)

/-- 'demurrallaw10.ChainRuns', WHERE WHAT IT READS IS OF BULK AT MOST 1048576: true; the input reads as it did. -/
def chainRunsUptoRow : OpenClaim := { program := "ytpafocjmheemjaadoor", sum := "0aa4dfed45c71fc02918323dae641b8896454d7a956a6e1e053b280902d81444", func := "demurral/demurrallaw10.ChainRuns", spec := "chainRuns", inPlace := ["internal/abi.NoEscape", "internal/bytealg.MakeNoZero"], unfollowed := true, recurses := true, named := ["demurral/digest.keys"], apart := false, laid := [("demurral/digest.keys", laid_demurral_digest_keys)], narrowed := true }
def ChainRunsUptoSaid : Prop := chainRunsUptoRow.holds Tryd.pinned (OpenSpec.upto chainRunsSpec)

/-- 'demurrallaw10.ChainGoes', WHERE WHAT IT READS IS OF BULK AT MOST 1048576: true; the input reads as it did. -/
def chainGoesUptoRow : OpenClaim := { program := "ytpafocjmheemjaadoor", sum := "0aa4dfed45c71fc02918323dae641b8896454d7a956a6e1e053b280902d81444", func := "demurral/demurrallaw10.ChainGoes", spec := "chainGoes", inPlace := ["internal/abi.NoEscape", "internal/bytealg.MakeNoZero"], unfollowed := true, recurses := true, named := ["demurral/digest.keys"], apart := false, laid := [("demurral/digest.keys", laid_demurral_digest_keys)], narrowed := true }
def ChainGoesUptoSaid : Prop := chainGoesUptoRow.holds Tryd.pinned (OpenSpec.upto chainGoesSpec)

/-- 'demurrallaw12.SkippedFills', WHERE WHAT IT READS IS OF BULK AT MOST 1048576: true; the input reads as it did. -/
def skippedFillsUptoRow : OpenClaim := { program := "ytpafocjmheemjaadoor", sum := "0aa4dfed45c71fc02918323dae641b8896454d7a956a6e1e053b280902d81444", func := "demurral/demurrallaw12.SkippedFills", spec := "skippedFills", inPlace := ["internal/abi.NoEscape", "internal/bytealg.MakeNoZero"], unfollowed := true, recurses := true, named := ["demurral/digest.keys"], apart := false, laid := [("demurral/digest.keys", laid_demurral_digest_keys)], narrowed := true }
def SkippedFillsUptoSaid : Prop := skippedFillsUptoRow.holds Tryd.pinned (OpenSpec.upto skippedFillsSpec)

/-- 'demurrallaw12.SkippedParts', WHERE WHAT IT READS IS OF BULK AT MOST 1048576: true; the input reads as it did. -/
def skippedPartsUptoRow : OpenClaim := { program := "ytpafocjmheemjaadoor", sum := "0aa4dfed45c71fc02918323dae641b8896454d7a956a6e1e053b280902d81444", func := "demurral/demurrallaw12.SkippedParts", spec := "skippedParts", inPlace := ["internal/abi.NoEscape", "internal/bytealg.MakeNoZero"], unfollowed := true, recurses := true, named := ["demurral/digest.keys"], apart := false, laid := [("demurral/digest.keys", laid_demurral_digest_keys)], narrowed := true }
def SkippedPartsUptoSaid : Prop := skippedPartsUptoRow.holds Tryd.pinned (OpenSpec.upto skippedPartsSpec)

end Rows
end Go.Proofs.YtpafocjmheemjaaDoor

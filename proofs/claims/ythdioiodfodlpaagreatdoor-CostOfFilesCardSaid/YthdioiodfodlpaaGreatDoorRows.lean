/-
  NARROWER THAN 'FOR EVERY INPUT', by the rows' own cells (each row's printed sentence says how): CostMatchesReference: laid · CostIsLinear: laid · CostOfHugeHeader: laid · CostOfFiles: laid · CostAddsUp: laid.
  DERIVED. THE GIVEN ROWS OF THIS SEAT. 5 by the template 'for every input the law returns true; each argument reads behind the call as it read before'; 0 by the template 'total and deterministic' (their statements: YthdioiodfodlpaaGreatDoorTotals.lean).
  GIVEN WITH THE SEED: the statements are not yours to turn. If you find one false, say at which input.
  Laid BY PROGRAM, IN A SANDBOX (cutbox-rows.mjs): the forced cells as the released guide's own fill.sh prints them over the translation 564854299be8a576… (all of the seat's roots in one cut). By AI agents, Wed Nov 11 2026. No macro, syntax, notation, axiom, sorry.
-/
import Derived.Test.YthdioiodfodlpaaGreatDoorChecked
import GoSem.Claim
import GoSem.ClaimJoined
import GoSem.ClaimMapViews
import Derived.JoinedTies
import Derived.KernelRfl
namespace Go.Proofs.YthdioiodfodlpaaGreatDoor
/- THE CELL 'sum', in the pinned program and in every row, IS THE sha256 OF THE DUMP (.gsa) THAT YthdioiodfodlpaaGreatDoorProg.lean LOADS. Nothing in Lean hashes anything: it is a label: what it is worth is what the hold of that sum in a sandbox is worth. -/
noncomputable def Tryz.pinned : Pinned := { name := "ythdioiodfodlpaagreatdoor", sum := "564854299be8a576ef3e0428519c24e24b43a0975be29e16a9ebbfc050d76611", checked := Tryz.checked }
namespace Rows
def none {H : Type} : Left H := { results := [], args := [] }

/- WHAT THE LISTED PACKAGE-LEVEL VARIABLES READ AS WHEN THE CALL BEGINS. Each datum BY PROGRAM (the guide's laid-datum.mjs) off the statement by which the dump's own 'gosem.cut.vars' lays the variable. In a bare row this is a premise. The card (YthdioiodfodlpaaGreatDoorCards.lean) ties it to the program's text. -/
def laid_zoneinfo_header_versions {H : Type} : DataW H := .agg [.lit (.int .u8 0), .lit (.int .u8 0), .lit (.int .u8 50), .lit (.int .u8 51), .lit (.int .u8 52)]
def laid_zoneinfo_indicators_flags {H : Type} : DataW H := .agg [.lit (.bool false), .lit (.bool true)]
def laid_errors_errorType {H : Type} : DataW H := .iface "internal/reflectlite.rtype" (.agg [.ptr (.lit (.string [101, 114, 114, 111, 114]))])

/-- 'zoneinfolaw27.CostMatchesReference': WHATEVER THE INPUT: true; the input reads as it did. -/
def costMatchesReferenceSpec : ChangeSpec := { name := "costMatchesReference", fn := fun _ => fun
  | [d1, d2, d3] => { results := [.lit (.bool true)], args := [d1, d2, d3] }
  | _ => none }
def costMatchesReferenceRow : OpenClaim := { program := "ythdioiodfodlpaagreatdoor", sum := "564854299be8a576ef3e0428519c24e24b43a0975be29e16a9ebbfc050d76611", func := "zoneinfo/zoneinfolaw27.CostMatchesReference", spec := "costMatchesReference", inPlace := ["math/bits.Add64", "internal/reflectlite.ValueOf", "(internal/reflectlite.Value).Type", "(internal/reflectlite.Value).IsNil", "internal/reflectlite.TypeOf", "(internal/reflectlite.Value).Elem", "(internal/reflectlite.Value).Set", "internal/bytealg.IndexByte"], unfollowed := true, recurses := true, named := ["zoneinfo/header.versions", "errors.errorType", "zoneinfo/indicators.flags"], apart := false, laid := [("zoneinfo/header.versions", laid_zoneinfo_header_versions), ("zoneinfo/indicators.flags", laid_zoneinfo_indicators_flags), ("errors.errorType", laid_errors_errorType)] }
def CostMatchesReferenceSaid : Prop := costMatchesReferenceRow.holds Tryz.pinned (OpenSpec.ofChange costMatchesReferenceSpec)

/-- ITS FALSE NEIGHBOUR: 'it returns false'. Refute it at one input. -/
def costMatchesReferenceWrong : ChangeSpec := { name := "costMatchesReference", fn := fun _ => fun
  | [d1, d2, d3] => { results := [.lit (.bool false)], args := [d1, d2, d3] }
  | _ => none }
def CostMatchesReferenceWrongFalsely : Prop := costMatchesReferenceRow.holds Tryz.pinned (OpenSpec.ofChange costMatchesReferenceWrong)

/-- 'zoneinfolaw27.CostIsLinear': WHATEVER THE INPUT: true; the input reads as it did. -/
def costIsLinearSpec : ChangeSpec := { name := "costIsLinear", fn := fun _ => fun
  | [d] => { results := [.lit (.bool true)], args := [d] }
  | _ => none }
def costIsLinearRow : OpenClaim := { program := "ythdioiodfodlpaagreatdoor", sum := "564854299be8a576ef3e0428519c24e24b43a0975be29e16a9ebbfc050d76611", func := "zoneinfo/zoneinfolaw27.CostIsLinear", spec := "costIsLinear", inPlace := ["math/bits.Add64", "internal/reflectlite.ValueOf", "(internal/reflectlite.Value).Type", "(internal/reflectlite.Value).IsNil", "internal/reflectlite.TypeOf", "(internal/reflectlite.Value).Elem", "(internal/reflectlite.Value).Set", "internal/bytealg.IndexByte"], unfollowed := true, recurses := true, named := ["zoneinfo/header.versions", "errors.errorType", "zoneinfo/indicators.flags"], apart := false, laid := [("zoneinfo/header.versions", laid_zoneinfo_header_versions), ("zoneinfo/indicators.flags", laid_zoneinfo_indicators_flags), ("errors.errorType", laid_errors_errorType)] }
def CostIsLinearSaid : Prop := costIsLinearRow.holds Tryz.pinned (OpenSpec.ofChange costIsLinearSpec)

/-- ITS FALSE NEIGHBOUR: 'it returns false'. Refute it at one input. -/
def costIsLinearWrong : ChangeSpec := { name := "costIsLinear", fn := fun _ => fun
  | [d] => { results := [.lit (.bool false)], args := [d] }
  | _ => none }
def CostIsLinearWrongFalsely : Prop := costIsLinearRow.holds Tryz.pinned (OpenSpec.ofChange costIsLinearWrong)

/-- 'zoneinfolaw27.CostOfHugeHeader': WHATEVER THE INPUT: true; the input reads as it did. -/
def costOfHugeHeaderSpec : ChangeSpec := { name := "costOfHugeHeader", fn := fun _ => fun
  | [d1, d2, d3] => { results := [.lit (.bool true)], args := [d1, d2, d3] }
  | _ => none }
def costOfHugeHeaderRow : OpenClaim := { program := "ythdioiodfodlpaagreatdoor", sum := "564854299be8a576ef3e0428519c24e24b43a0975be29e16a9ebbfc050d76611", func := "zoneinfo/zoneinfolaw27.CostOfHugeHeader", spec := "costOfHugeHeader", inPlace := ["math/bits.Add64", "internal/reflectlite.ValueOf", "(internal/reflectlite.Value).Type", "(internal/reflectlite.Value).IsNil", "internal/reflectlite.TypeOf", "(internal/reflectlite.Value).Elem", "(internal/reflectlite.Value).Set", "internal/bytealg.IndexByte"], unfollowed := true, recurses := true, named := ["zoneinfo/header.versions", "errors.errorType", "zoneinfo/indicators.flags"], apart := false, laid := [("zoneinfo/header.versions", laid_zoneinfo_header_versions), ("zoneinfo/indicators.flags", laid_zoneinfo_indicators_flags), ("errors.errorType", laid_errors_errorType)] }
def CostOfHugeHeaderSaid : Prop := costOfHugeHeaderRow.holds Tryz.pinned (OpenSpec.ofChange costOfHugeHeaderSpec)

/-- ITS FALSE NEIGHBOUR: 'it returns false'. Refute it at one input. -/
def costOfHugeHeaderWrong : ChangeSpec := { name := "costOfHugeHeader", fn := fun _ => fun
  | [d1, d2, d3] => { results := [.lit (.bool false)], args := [d1, d2, d3] }
  | _ => none }
def CostOfHugeHeaderWrongFalsely : Prop := costOfHugeHeaderRow.holds Tryz.pinned (OpenSpec.ofChange costOfHugeHeaderWrong)

/-- 'zoneinfolaw27.CostOfFiles': WHATEVER THE INPUT: true; the input reads as it did. -/
def costOfFilesSpec : ChangeSpec := { name := "costOfFiles", fn := fun _ => fun
  | [d1, d2] => { results := [.lit (.bool true)], args := [d1, d2] }
  | _ => none }
def costOfFilesRow : OpenClaim := { program := "ythdioiodfodlpaagreatdoor", sum := "564854299be8a576ef3e0428519c24e24b43a0975be29e16a9ebbfc050d76611", func := "zoneinfo/zoneinfolaw27.CostOfFiles", spec := "costOfFiles", inPlace := ["math/bits.Add64", "internal/reflectlite.ValueOf", "(internal/reflectlite.Value).Type", "(internal/reflectlite.Value).IsNil", "internal/reflectlite.TypeOf", "(internal/reflectlite.Value).Elem", "(internal/reflectlite.Value).Set", "internal/bytealg.IndexByte"], unfollowed := true, recurses := true, named := ["zoneinfo/header.versions", "errors.errorType", "zoneinfo/indicators.flags"], apart := false, laid := [("zoneinfo/header.versions", laid_zoneinfo_header_versions), ("zoneinfo/indicators.flags", laid_zoneinfo_indicators_flags), ("errors.errorType", laid_errors_errorType)] }
def CostOfFilesSaid : Prop := costOfFilesRow.holds Tryz.pinned (OpenSpec.ofChange costOfFilesSpec)

/-- ITS FALSE NEIGHBOUR: 'it returns false'. Refute it at one input. -/
def costOfFilesWrong : ChangeSpec := { name := "costOfFiles", fn := fun _ => fun
  | [d1, d2] => { results := [.lit (.bool false)], args := [d1, d2] }
  | _ => none }
def CostOfFilesWrongFalsely : Prop := costOfFilesRow.holds Tryz.pinned (OpenSpec.ofChange costOfFilesWrong)

/-- 'zoneinfolaw27.CostAddsUp': WHATEVER THE INPUT: true; the input reads as it did. -/
def costAddsUpSpec : ChangeSpec := { name := "costAddsUp", fn := fun _ => fun
  | [d1, d2, d3, d4] => { results := [.lit (.bool true)], args := [d1, d2, d3, d4] }
  | _ => none }
def costAddsUpRow : OpenClaim := { program := "ythdioiodfodlpaagreatdoor", sum := "564854299be8a576ef3e0428519c24e24b43a0975be29e16a9ebbfc050d76611", func := "zoneinfo/zoneinfolaw27.CostAddsUp", spec := "costAddsUp", inPlace := ["math/bits.Add64", "internal/reflectlite.ValueOf", "(internal/reflectlite.Value).Type", "(internal/reflectlite.Value).IsNil", "internal/reflectlite.TypeOf", "(internal/reflectlite.Value).Elem", "(internal/reflectlite.Value).Set", "internal/bytealg.IndexByte"], unfollowed := true, recurses := true, named := ["zoneinfo/header.versions", "errors.errorType", "zoneinfo/indicators.flags"], apart := false, laid := [("zoneinfo/header.versions", laid_zoneinfo_header_versions), ("zoneinfo/indicators.flags", laid_zoneinfo_indicators_flags), ("errors.errorType", laid_errors_errorType)] }
def CostAddsUpSaid : Prop := costAddsUpRow.holds Tryz.pinned (OpenSpec.ofChange costAddsUpSpec)

/-- ITS FALSE NEIGHBOUR: 'it returns false'. Refute it at one input. -/
def costAddsUpWrong : ChangeSpec := { name := "costAddsUp", fn := fun _ => fun
  | [d1, d2, d3, d4] => { results := [.lit (.bool false)], args := [d1, d2, d3, d4] }
  | _ => none }
def CostAddsUpWrongFalsely : Prop := costAddsUpRow.holds Tryz.pinned (OpenSpec.ofChange costAddsUpWrong)

/- THE SECOND FORM. 'bulk': how many values and letters a reading holds, each counted each time it is reached (what is shared counts as often as it is met; a slice's spare places count too). A statement '..UptoSaid' is the law's where the arguments, and the package variables that the reading takes, are together of bulk at most 1048576: NARROWER than '..Said'. Prove '..Said' where nothing that the law and all that it calls make is longer than what came in: it says more and counts as full. Else prove '..UptoSaid'. A law counts once. -/
mutual
def uptoBulk {H : Type} : DataW H → Nat
  | .lit (.string bytes) => bytes.length + 1
  | .lit _ => 1
  | .nil => 1
  | .ptr d => uptoBulk d + 1
  | .slice elems spare => uptoBulkAll elems + uptoBulkAll spare + 1
  | .agg parts => uptoBulkAll parts + 1
  | .iface _ d => uptoBulk d + 1
  | .map entries => uptoBulkEntries entries + 1
  | .held _ => 1
def uptoBulkAll {H : Type} : List (DataW H) → Nat
  | [] => 0
  | d :: r => uptoBulk d + uptoBulkAll r
def uptoBulkEntries {H : Type} : List (Lit × DataW H) → Nat
  | [] => 0
  | x :: r => uptoBulkEntry x + uptoBulkEntries r
def uptoBulkEntry {H : Type} : Lit × DataW H → Nat
  | (.string bytes, d) => bytes.length + uptoBulk d + 1
  | (_, d) => uptoBulk d + 1
 end
def uptoSmall : (H : Type) → List (DataW H) → Bool := fun _ ds => decide (uptoBulkAll ds ≤ 1048576)
def OpenSpec.upto (s : _root_.Go.ChangeSpec) : _root_.Go.OpenSpec := { _root_.Go.OpenSpec.ofChange s with cond := some uptoSmall }

/-- 'zoneinfolaw27.CostMatchesReference', WHERE WHAT IT READS IS OF BULK AT MOST 1048576: true; the input reads as it did. -/
def costMatchesReferenceUptoRow : OpenClaim := { program := "ythdioiodfodlpaagreatdoor", sum := "564854299be8a576ef3e0428519c24e24b43a0975be29e16a9ebbfc050d76611", func := "zoneinfo/zoneinfolaw27.CostMatchesReference", spec := "costMatchesReference", inPlace := ["math/bits.Add64", "internal/reflectlite.ValueOf", "(internal/reflectlite.Value).Type", "(internal/reflectlite.Value).IsNil", "internal/reflectlite.TypeOf", "(internal/reflectlite.Value).Elem", "(internal/reflectlite.Value).Set", "internal/bytealg.IndexByte"], unfollowed := true, recurses := true, named := ["zoneinfo/header.versions", "errors.errorType", "zoneinfo/indicators.flags"], apart := false, laid := [("zoneinfo/header.versions", laid_zoneinfo_header_versions), ("zoneinfo/indicators.flags", laid_zoneinfo_indicators_flags), ("errors.errorType", laid_errors_errorType)], narrowed := true }
def CostMatchesReferenceUptoSaid : Prop := costMatchesReferenceUptoRow.holds Tryz.pinned (OpenSpec.upto costMatchesReferenceSpec)

/-- 'zoneinfolaw27.CostIsLinear', WHERE WHAT IT READS IS OF BULK AT MOST 1048576: true; the input reads as it did. -/
def costIsLinearUptoRow : OpenClaim := { program := "ythdioiodfodlpaagreatdoor", sum := "564854299be8a576ef3e0428519c24e24b43a0975be29e16a9ebbfc050d76611", func := "zoneinfo/zoneinfolaw27.CostIsLinear", spec := "costIsLinear", inPlace := ["math/bits.Add64", "internal/reflectlite.ValueOf", "(internal/reflectlite.Value).Type", "(internal/reflectlite.Value).IsNil", "internal/reflectlite.TypeOf", "(internal/reflectlite.Value).Elem", "(internal/reflectlite.Value).Set", "internal/bytealg.IndexByte"], unfollowed := true, recurses := true, named := ["zoneinfo/header.versions", "errors.errorType", "zoneinfo/indicators.flags"], apart := false, laid := [("zoneinfo/header.versions", laid_zoneinfo_header_versions), ("zoneinfo/indicators.flags", laid_zoneinfo_indicators_flags), ("errors.errorType", laid_errors_errorType)], narrowed := true }
def CostIsLinearUptoSaid : Prop := costIsLinearUptoRow.holds Tryz.pinned (OpenSpec.upto costIsLinearSpec)

/-- 'zoneinfolaw27.CostOfHugeHeader', WHERE WHAT IT READS IS OF BULK AT MOST 1048576: true; the input reads as it did. -/
def costOfHugeHeaderUptoRow : OpenClaim := { program := "ythdioiodfodlpaagreatdoor", sum := "564854299be8a576ef3e0428519c24e24b43a0975be29e16a9ebbfc050d76611", func := "zoneinfo/zoneinfolaw27.CostOfHugeHeader", spec := "costOfHugeHeader", inPlace := ["math/bits.Add64", "internal/reflectlite.ValueOf", "(internal/reflectlite.Value).Type", "(internal/reflectlite.Value).IsNil", "internal/reflectlite.TypeOf", "(internal/reflectlite.Value).Elem", "(internal/reflectlite.Value).Set", "internal/bytealg.IndexByte"], unfollowed := true, recurses := true, named := ["zoneinfo/header.versions", "errors.errorType", "zoneinfo/indicators.flags"], apart := false, laid := [("zoneinfo/header.versions", laid_zoneinfo_header_versions), ("zoneinfo/indicators.flags", laid_zoneinfo_indicators_flags), ("errors.errorType", laid_errors_errorType)], narrowed := true }
def CostOfHugeHeaderUptoSaid : Prop := costOfHugeHeaderUptoRow.holds Tryz.pinned (OpenSpec.upto costOfHugeHeaderSpec)

/-- 'zoneinfolaw27.CostOfFiles', WHERE WHAT IT READS IS OF BULK AT MOST 1048576: true; the input reads as it did. -/
def costOfFilesUptoRow : OpenClaim := { program := "ythdioiodfodlpaagreatdoor", sum := "564854299be8a576ef3e0428519c24e24b43a0975be29e16a9ebbfc050d76611", func := "zoneinfo/zoneinfolaw27.CostOfFiles", spec := "costOfFiles", inPlace := ["math/bits.Add64", "internal/reflectlite.ValueOf", "(internal/reflectlite.Value).Type", "(internal/reflectlite.Value).IsNil", "internal/reflectlite.TypeOf", "(internal/reflectlite.Value).Elem", "(internal/reflectlite.Value).Set", "internal/bytealg.IndexByte"], unfollowed := true, recurses := true, named := ["zoneinfo/header.versions", "errors.errorType", "zoneinfo/indicators.flags"], apart := false, laid := [("zoneinfo/header.versions", laid_zoneinfo_header_versions), ("zoneinfo/indicators.flags", laid_zoneinfo_indicators_flags), ("errors.errorType", laid_errors_errorType)], narrowed := true }
def CostOfFilesUptoSaid : Prop := costOfFilesUptoRow.holds Tryz.pinned (OpenSpec.upto costOfFilesSpec)

/-- 'zoneinfolaw27.CostAddsUp', WHERE WHAT IT READS IS OF BULK AT MOST 1048576: true; the input reads as it did. -/
def costAddsUpUptoRow : OpenClaim := { program := "ythdioiodfodlpaagreatdoor", sum := "564854299be8a576ef3e0428519c24e24b43a0975be29e16a9ebbfc050d76611", func := "zoneinfo/zoneinfolaw27.CostAddsUp", spec := "costAddsUp", inPlace := ["math/bits.Add64", "internal/reflectlite.ValueOf", "(internal/reflectlite.Value).Type", "(internal/reflectlite.Value).IsNil", "internal/reflectlite.TypeOf", "(internal/reflectlite.Value).Elem", "(internal/reflectlite.Value).Set", "internal/bytealg.IndexByte"], unfollowed := true, recurses := true, named := ["zoneinfo/header.versions", "errors.errorType", "zoneinfo/indicators.flags"], apart := false, laid := [("zoneinfo/header.versions", laid_zoneinfo_header_versions), ("zoneinfo/indicators.flags", laid_zoneinfo_indicators_flags), ("errors.errorType", laid_errors_errorType)], narrowed := true }
def CostAddsUpUptoSaid : Prop := costAddsUpUptoRow.holds Tryz.pinned (OpenSpec.upto costAddsUpSpec)

end Rows
end Go.Proofs.YthdioiodfodlpaaGreatDoor

/-
  NARROWER THAN 'FOR EVERY INPUT', by the rows' own cells (each row's printed sentence says how): BlockMatchesReference: laid · BlockRoundTrip: laid · BlockIsCanonical: laid · BlockHugeCounts: laid · BlockDoesNotAlias: laid.
  DERIVED. THE GIVEN ROWS OF THIS SEAT. 5 by the template 'for every input the law returns true; each argument reads behind the call as it read before'; 0 by the template 'total and deterministic' (their statements: YtmmioohcgdnpdaaDoorTotals.lean).
  GIVEN WITH THE SEED: the statements are not yours to turn. If you find one false, say at which input.
  Laid BY PROGRAM, IN A SANDBOX (cutbox-rows.mjs): the forced cells as the released guide's own fill.sh prints them over the translation a3441d688995010d… (all of the seat's roots in one cut). By AI agents, Wed Nov 11 2026. No macro, syntax, notation, axiom, sorry.
-/
import Derived.Test.YtmmioohcgdnpdaaDoorChecked
import GoSem.Claim
import GoSem.ClaimJoined
import GoSem.ClaimMapViews
import Derived.JoinedTies
import Derived.KernelRfl
namespace Go.Proofs.YtmmioohcgdnpdaaDoor
/- THE CELL 'sum', in the pinned program and in every row, IS THE sha256 OF THE DUMP (.gsa) THAT YtmmioohcgdnpdaaDoorProg.lean LOADS. Nothing in Lean hashes anything: it is a label: what it is worth is what the hold of that sum in a sandbox is worth. -/
noncomputable def Tryd.pinned : Pinned := { name := "ytmmioohcgdnpdaadoor", sum := "a3441d688995010d811deae3a80f5b236a7246be6363701b002067e22281d8ef", checked := Tryd.checked }
namespace Rows
def none {H : Type} : Left H := { results := [], args := [] }

/- WHAT THE LISTED PACKAGE-LEVEL VARIABLES READ AS WHEN THE CALL BEGINS. Each datum BY PROGRAM (the guide's laid-datum.mjs) off the statement by which the dump's own 'gosem.cut.vars' lays the variable. In a bare row this is a premise. The card (YtmmioohcgdnpdaaDoorCards.lean) ties it to the program's text. -/
def laid_zoneinfo_indicators_flags {H : Type} : DataW H := .agg [.lit (.bool false), .lit (.bool true)]
def laid_errors_errorType {H : Type} : DataW H := .iface "internal/reflectlite.rtype" (.agg [.ptr (.lit (.string [101, 114, 114, 111, 114]))])

/-- 'zoneinfolaw19.BlockMatchesReference': WHATEVER THE INPUT: true; the input reads as it did. -/
def blockMatchesReferenceSpec : ChangeSpec := { name := "blockMatchesReference", fn := fun _ => fun
  | [d1, d2, d3, d4, d5] => { results := [.lit (.bool true)], args := [d1, d2, d3, d4, d5] }
  | _ => none }
def blockMatchesReferenceRow : OpenClaim := { program := "ytmmioohcgdnpdaadoor", sum := "a3441d688995010d811deae3a80f5b236a7246be6363701b002067e22281d8ef", func := "zoneinfo/zoneinfolaw19.BlockMatchesReference", spec := "blockMatchesReference", inPlace := ["math/bits.Add64", "internal/reflectlite.ValueOf", "(internal/reflectlite.Value).Type", "(internal/reflectlite.Value).IsNil", "internal/reflectlite.TypeOf", "(internal/reflectlite.Value).Elem", "(internal/reflectlite.Value).Set"], unfollowed := true, recurses := true, named := ["errors.errorType", "zoneinfo/indicators.flags"], apart := false, laid := [("zoneinfo/indicators.flags", laid_zoneinfo_indicators_flags), ("errors.errorType", laid_errors_errorType)] }
def BlockMatchesReferenceSaid : Prop := blockMatchesReferenceRow.holds Tryd.pinned (OpenSpec.ofChange blockMatchesReferenceSpec)

/-- ITS FALSE NEIGHBOUR: 'it returns false'. Refute it at one input. -/
def blockMatchesReferenceWrong : ChangeSpec := { name := "blockMatchesReference", fn := fun _ => fun
  | [d1, d2, d3, d4, d5] => { results := [.lit (.bool false)], args := [d1, d2, d3, d4, d5] }
  | _ => none }
def BlockMatchesReferenceWrongFalsely : Prop := blockMatchesReferenceRow.holds Tryd.pinned (OpenSpec.ofChange blockMatchesReferenceWrong)

/-- 'zoneinfolaw19.BlockRoundTrip': WHATEVER THE INPUT: true; the input reads as it did. -/
def blockRoundTripSpec : ChangeSpec := { name := "blockRoundTrip", fn := fun _ => fun
  | [d1, d2, d3] => { results := [.lit (.bool true)], args := [d1, d2, d3] }
  | _ => none }
def blockRoundTripRow : OpenClaim := { program := "ytmmioohcgdnpdaadoor", sum := "a3441d688995010d811deae3a80f5b236a7246be6363701b002067e22281d8ef", func := "zoneinfo/zoneinfolaw19.BlockRoundTrip", spec := "blockRoundTrip", inPlace := ["math/bits.Add64", "internal/reflectlite.ValueOf", "(internal/reflectlite.Value).Type", "(internal/reflectlite.Value).IsNil", "internal/reflectlite.TypeOf", "(internal/reflectlite.Value).Elem", "(internal/reflectlite.Value).Set"], unfollowed := true, recurses := true, named := ["errors.errorType", "zoneinfo/indicators.flags"], apart := false, laid := [("zoneinfo/indicators.flags", laid_zoneinfo_indicators_flags), ("errors.errorType", laid_errors_errorType)] }
def BlockRoundTripSaid : Prop := blockRoundTripRow.holds Tryd.pinned (OpenSpec.ofChange blockRoundTripSpec)

/-- ITS FALSE NEIGHBOUR: 'it returns false'. Refute it at one input. -/
def blockRoundTripWrong : ChangeSpec := { name := "blockRoundTrip", fn := fun _ => fun
  | [d1, d2, d3] => { results := [.lit (.bool false)], args := [d1, d2, d3] }
  | _ => none }
def BlockRoundTripWrongFalsely : Prop := blockRoundTripRow.holds Tryd.pinned (OpenSpec.ofChange blockRoundTripWrong)

/-- 'zoneinfolaw19.BlockIsCanonical': WHATEVER THE INPUT: true; the input reads as it did. -/
def blockIsCanonicalSpec : ChangeSpec := { name := "blockIsCanonical", fn := fun _ => fun
  | [d1, d2, d3, d4] => { results := [.lit (.bool true)], args := [d1, d2, d3, d4] }
  | _ => none }
def blockIsCanonicalRow : OpenClaim := { program := "ytmmioohcgdnpdaadoor", sum := "a3441d688995010d811deae3a80f5b236a7246be6363701b002067e22281d8ef", func := "zoneinfo/zoneinfolaw19.BlockIsCanonical", spec := "blockIsCanonical", inPlace := ["math/bits.Add64", "internal/reflectlite.ValueOf", "(internal/reflectlite.Value).Type", "(internal/reflectlite.Value).IsNil", "internal/reflectlite.TypeOf", "(internal/reflectlite.Value).Elem", "(internal/reflectlite.Value).Set"], unfollowed := true, recurses := true, named := ["errors.errorType", "zoneinfo/indicators.flags"], apart := false, laid := [("zoneinfo/indicators.flags", laid_zoneinfo_indicators_flags), ("errors.errorType", laid_errors_errorType)] }
def BlockIsCanonicalSaid : Prop := blockIsCanonicalRow.holds Tryd.pinned (OpenSpec.ofChange blockIsCanonicalSpec)

/-- ITS FALSE NEIGHBOUR: 'it returns false'. Refute it at one input. -/
def blockIsCanonicalWrong : ChangeSpec := { name := "blockIsCanonical", fn := fun _ => fun
  | [d1, d2, d3, d4] => { results := [.lit (.bool false)], args := [d1, d2, d3, d4] }
  | _ => none }
def BlockIsCanonicalWrongFalsely : Prop := blockIsCanonicalRow.holds Tryd.pinned (OpenSpec.ofChange blockIsCanonicalWrong)

/-- 'zoneinfolaw19.BlockHugeCounts': WHATEVER THE INPUT: true; the input reads as it did. -/
def blockHugeCountsSpec : ChangeSpec := { name := "blockHugeCounts", fn := fun _ => fun
  | [d1, d2, d3, d4] => { results := [.lit (.bool true)], args := [d1, d2, d3, d4] }
  | _ => none }
def blockHugeCountsRow : OpenClaim := { program := "ytmmioohcgdnpdaadoor", sum := "a3441d688995010d811deae3a80f5b236a7246be6363701b002067e22281d8ef", func := "zoneinfo/zoneinfolaw19.BlockHugeCounts", spec := "blockHugeCounts", inPlace := ["math/bits.Add64", "internal/reflectlite.ValueOf", "(internal/reflectlite.Value).Type", "(internal/reflectlite.Value).IsNil", "internal/reflectlite.TypeOf", "(internal/reflectlite.Value).Elem", "(internal/reflectlite.Value).Set"], unfollowed := true, recurses := true, named := ["errors.errorType", "zoneinfo/indicators.flags"], apart := false, laid := [("zoneinfo/indicators.flags", laid_zoneinfo_indicators_flags), ("errors.errorType", laid_errors_errorType)] }
def BlockHugeCountsSaid : Prop := blockHugeCountsRow.holds Tryd.pinned (OpenSpec.ofChange blockHugeCountsSpec)

/-- ITS FALSE NEIGHBOUR: 'it returns false'. Refute it at one input. -/
def blockHugeCountsWrong : ChangeSpec := { name := "blockHugeCounts", fn := fun _ => fun
  | [d1, d2, d3, d4] => { results := [.lit (.bool false)], args := [d1, d2, d3, d4] }
  | _ => none }
def BlockHugeCountsWrongFalsely : Prop := blockHugeCountsRow.holds Tryd.pinned (OpenSpec.ofChange blockHugeCountsWrong)

/-- 'zoneinfolaw19.BlockDoesNotAlias': WHATEVER THE INPUT: true; the input reads as it did. -/
def blockDoesNotAliasSpec : ChangeSpec := { name := "blockDoesNotAlias", fn := fun _ => fun
  | [d1, d2, d3] => { results := [.lit (.bool true)], args := [d1, d2, d3] }
  | _ => none }
def blockDoesNotAliasRow : OpenClaim := { program := "ytmmioohcgdnpdaadoor", sum := "a3441d688995010d811deae3a80f5b236a7246be6363701b002067e22281d8ef", func := "zoneinfo/zoneinfolaw19.BlockDoesNotAlias", spec := "blockDoesNotAlias", inPlace := ["math/bits.Add64", "internal/reflectlite.ValueOf", "(internal/reflectlite.Value).Type", "(internal/reflectlite.Value).IsNil", "internal/reflectlite.TypeOf", "(internal/reflectlite.Value).Elem", "(internal/reflectlite.Value).Set"], unfollowed := true, recurses := true, named := ["errors.errorType", "zoneinfo/indicators.flags"], apart := false, laid := [("zoneinfo/indicators.flags", laid_zoneinfo_indicators_flags), ("errors.errorType", laid_errors_errorType)] }
def BlockDoesNotAliasSaid : Prop := blockDoesNotAliasRow.holds Tryd.pinned (OpenSpec.ofChange blockDoesNotAliasSpec)

/-- ITS FALSE NEIGHBOUR: 'it returns false'. Refute it at one input. -/
def blockDoesNotAliasWrong : ChangeSpec := { name := "blockDoesNotAlias", fn := fun _ => fun
  | [d1, d2, d3] => { results := [.lit (.bool false)], args := [d1, d2, d3] }
  | _ => none }
def BlockDoesNotAliasWrongFalsely : Prop := blockDoesNotAliasRow.holds Tryd.pinned (OpenSpec.ofChange blockDoesNotAliasWrong)

/- THE SECOND FORM. 'bulk': how many values and letters a reading holds, each counted each time it is reached (what is shared counts as often as it is met; a slice's spare places count too). A statement '..UptoSaid' is the law's where the arguments, and the package variables that the reading takes, are together of bulk at most 1048576: NARROWER than '..Said'. Prove '..Said' where nothing that the law and all that it calls make is longer than what came in: it says more and counts as full. Else prove '..UptoSaid'. A law counts once. -/
mutual
def uptoBulk {H : Type} : DataW H → Nat
  | .lit (.string bytes) => bytes.length + 1
  | .lit _ => 1
  | .nil => 1
  | .ptr d => uptoBulk d + 1
  | .slice elems spare => uptoBulkAll elems + uptoBulkAll spare + 1
  | .agg parts => uptoBulkAll parts + 1
  | .iface _ d => uptoBulk d + 1
  | .map entries => uptoBulkEntries entries + 1
  | .held _ => 1
def uptoBulkAll {H : Type} : List (DataW H) → Nat
  | [] => 0
  | d :: r => uptoBulk d + uptoBulkAll r
def uptoBulkEntries {H : Type} : List (Lit × DataW H) → Nat
  | [] => 0
  | x :: r => uptoBulkEntry x + uptoBulkEntries r
def uptoBulkEntry {H : Type} : Lit × DataW H → Nat
  | (.string bytes, d) => bytes.length + uptoBulk d + 1
  | (_, d) => uptoBulk d + 1
 end
def uptoSmall : (H : Type) → List (DataW H) → Bool := fun _ ds => decide (uptoBulkAll ds ≤ 1048576)
def OpenSpec.upto (s : _root_.Go.ChangeSpec) : _root_.Go.OpenSpec := { _root_.Go.OpenSpec.ofChange s with cond := some uptoSmall }

/-- 'zoneinfolaw19.BlockMatchesReference', WHERE WHAT IT READS IS OF BULK AT MOST 1048576: true; the input reads as it did. -/
def blockMatchesReferenceUptoRow : OpenClaim := { program := "ytmmioohcgdnpdaadoor", sum := "a3441d688995010d811deae3a80f5b236a7246be6363701b002067e22281d8ef", func := "zoneinfo/zoneinfolaw19.BlockMatchesReference", spec := "blockMatchesReference", inPlace := ["math/bits.Add64", "internal/reflectlite.ValueOf", "(internal/reflectlite.Value).Type", "(internal/reflectlite.Value).IsNil", "internal/reflectlite.TypeOf", "(internal/reflectlite.Value).Elem", "(internal/reflectlite.Value).Set"], unfollowed := true, recurses := true, named := ["errors.errorType", "zoneinfo/indicators.flags"], apart := false, laid := [("zoneinfo/indicators.flags", laid_zoneinfo_indicators_flags), ("errors.errorType", laid_errors_errorType)], narrowed := true }
def BlockMatchesReferenceUptoSaid : Prop := blockMatchesReferenceUptoRow.holds Tryd.pinned (OpenSpec.upto blockMatchesReferenceSpec)

/-- 'zoneinfolaw19.BlockRoundTrip', WHERE WHAT IT READS IS OF BULK AT MOST 1048576: true; the input reads as it did. -/
def blockRoundTripUptoRow : OpenClaim := { program := "ytmmioohcgdnpdaadoor", sum := "a3441d688995010d811deae3a80f5b236a7246be6363701b002067e22281d8ef", func := "zoneinfo/zoneinfolaw19.BlockRoundTrip", spec := "blockRoundTrip", inPlace := ["math/bits.Add64", "internal/reflectlite.ValueOf", "(internal/reflectlite.Value).Type", "(internal/reflectlite.Value).IsNil", "internal/reflectlite.TypeOf", "(internal/reflectlite.Value).Elem", "(internal/reflectlite.Value).Set"], unfollowed := true, recurses := true, named := ["errors.errorType", "zoneinfo/indicators.flags"], apart := false, laid := [("zoneinfo/indicators.flags", laid_zoneinfo_indicators_flags), ("errors.errorType", laid_errors_errorType)], narrowed := true }
def BlockRoundTripUptoSaid : Prop := blockRoundTripUptoRow.holds Tryd.pinned (OpenSpec.upto blockRoundTripSpec)

/-- 'zoneinfolaw19.BlockIsCanonical', WHERE WHAT IT READS IS OF BULK AT MOST 1048576: true; the input reads as it did. -/
def blockIsCanonicalUptoRow : OpenClaim := { program := "ytmmioohcgdnpdaadoor", sum := "a3441d688995010d811deae3a80f5b236a7246be6363701b002067e22281d8ef", func := "zoneinfo/zoneinfolaw19.BlockIsCanonical", spec := "blockIsCanonical", inPlace := ["math/bits.Add64", "internal/reflectlite.ValueOf", "(internal/reflectlite.Value).Type", "(internal/reflectlite.Value).IsNil", "internal/reflectlite.TypeOf", "(internal/reflectlite.Value).Elem", "(internal/reflectlite.Value).Set"], unfollowed := true, recurses := true, named := ["errors.errorType", "zoneinfo/indicators.flags"], apart := false, laid := [("zoneinfo/indicators.flags", laid_zoneinfo_indicators_flags), ("errors.errorType", laid_errors_errorType)], narrowed := true }
def BlockIsCanonicalUptoSaid : Prop := blockIsCanonicalUptoRow.holds Tryd.pinned (OpenSpec.upto blockIsCanonicalSpec)

/-- 'zoneinfolaw19.BlockHugeCounts', WHERE WHAT IT READS IS OF BULK AT MOST 1048576: true; the input reads as it did. -/
def blockHugeCountsUptoRow : OpenClaim := { program := "ytmmioohcgdnpdaadoor", sum := "a3441d688995010d811deae3a80f5b236a7246be6363701b002067e22281d8ef", func := "zoneinfo/zoneinfolaw19.BlockHugeCounts", spec := "blockHugeCounts", inPlace := ["math/bits.Add64", "internal/reflectlite.ValueOf", "(internal/reflectlite.Value).Type", "(internal/reflectlite.Value).IsNil", "internal/reflectlite.TypeOf", "(internal/reflectlite.Value).Elem", "(internal/reflectlite.Value).Set"], unfollowed := true, recurses := true, named := ["errors.errorType", "zoneinfo/indicators.flags"], apart := false, laid := [("zoneinfo/indicators.flags", laid_zoneinfo_indicators_flags), ("errors.errorType", laid_errors_errorType)], narrowed := true }
def BlockHugeCountsUptoSaid : Prop := blockHugeCountsUptoRow.holds Tryd.pinned (OpenSpec.upto blockHugeCountsSpec)

/-- 'zoneinfolaw19.BlockDoesNotAlias', WHERE WHAT IT READS IS OF BULK AT MOST 1048576: true; the input reads as it did. -/
def blockDoesNotAliasUptoRow : OpenClaim := { program := "ytmmioohcgdnpdaadoor", sum := "a3441d688995010d811deae3a80f5b236a7246be6363701b002067e22281d8ef", func := "zoneinfo/zoneinfolaw19.BlockDoesNotAlias", spec := "blockDoesNotAlias", inPlace := ["math/bits.Add64", "internal/reflectlite.ValueOf", "(internal/reflectlite.Value).Type", "(internal/reflectlite.Value).IsNil", "internal/reflectlite.TypeOf", "(internal/reflectlite.Value).Elem", "(internal/reflectlite.Value).Set"], unfollowed := true, recurses := true, named := ["errors.errorType", "zoneinfo/indicators.flags"], apart := false, laid := [("zoneinfo/indicators.flags", laid_zoneinfo_indicators_flags), ("errors.errorType", laid_errors_errorType)], narrowed := true }
def BlockDoesNotAliasUptoSaid : Prop := blockDoesNotAliasUptoRow.holds Tryd.pinned (OpenSpec.upto blockDoesNotAliasSpec)

end Rows
end Go.Proofs.YtmmioohcgdnpdaaDoor

/-
  No cell of these rows narrows 'for every input' (looked for: loops, veiled, ifaces, maps, wideKeys, modest, calm, conditions, laid).
  DERIVED. THE GIVEN ROWS OF THIS SEAT. 4 by the template 'for every input the law returns true; each argument reads behind the call as it read before'; 0 by the template 'total and deterministic' (their statements: YtphhooapdgaoaaaTotals.lean).
  GIVEN WITH THE SEED: the statements are not yours to turn. If you find one false, say at which input.
  Laid BY PROGRAM, IN A SANDBOX (cutbox-rows.mjs): the forced cells as the released guide's own fill.sh prints them over the translation 94951552078086ce… (all of the seat's roots in one cut). By AI agents, Wed Nov 11 2026. No macro, syntax, notation, axiom, sorry.
-/
import Derived.Test.YtphhooapdgaoaaaChecked
import GoSem.Claim
import GoSem.ClaimJoined
import GoSem.ClaimMapViews
import Derived.JoinedTies
import Derived.KernelRfl
namespace Go.Proofs.Ytphhooapdgaoaaa
/- THE CELL 'sum', in the pinned program and in every row, IS THE sha256 OF THE DUMP (.gsa) THAT YtphhooapdgaoaaaProg.lean LOADS. Nothing in Lean hashes anything: it is a label: what it is worth is what the hold of that sum in a sandbox is worth. -/
noncomputable def Try.pinned : Pinned := { name := "ytphhooapdgaoaaa", sum := "94951552078086ce5b570d70061a0b7684fe6b76ec0b67be0d647452b0e68a43", checked := Try.checked }
namespace Rows
def none {H : Type} : Left H := { results := [], args := [] }

/-- 'zoneinfolaw07.TznameMatchesReference': WHATEVER THE INPUT: true; the input reads as it did. -/
def tznameMatchesReferenceSpec : ChangeSpec := { name := "tznameMatchesReference", fn := fun _ => fun
  | [d1, d2] => { results := [.lit (.bool true)], args := [d1, d2] }
  | _ => none }
def tznameMatchesReferenceRow : OpenClaim := { program := "ytphhooapdgaoaaa", sum := "94951552078086ce5b570d70061a0b7684fe6b76ec0b67be0d647452b0e68a43", func := "zoneinfo/zoneinfolaw07.TznameMatchesReference", spec := "tznameMatchesReference", inPlace := ["internal/bytealg.IndexByteString"], apart := false }
def TznameMatchesReferenceSaid : Prop := tznameMatchesReferenceRow.holds Try.pinned (OpenSpec.ofChange tznameMatchesReferenceSpec)

/-- ITS FALSE NEIGHBOUR: 'it returns false'. Refute it at one input. -/
def tznameMatchesReferenceWrong : ChangeSpec := { name := "tznameMatchesReference", fn := fun _ => fun
  | [d1, d2] => { results := [.lit (.bool false)], args := [d1, d2] }
  | _ => none }
def TznameMatchesReferenceWrongFalsely : Prop := tznameMatchesReferenceRow.holds Try.pinned (OpenSpec.ofChange tznameMatchesReferenceWrong)

/-- 'zoneinfolaw07.TznameRoundTrip': WHATEVER THE INPUT: true; the input reads as it did. -/
def tznameRoundTripSpec : ChangeSpec := { name := "tznameRoundTrip", fn := fun _ => fun
  | [d1, d2, d3] => { results := [.lit (.bool true)], args := [d1, d2, d3] }
  | _ => none }
def tznameRoundTripRow : OpenClaim := { program := "ytphhooapdgaoaaa", sum := "94951552078086ce5b570d70061a0b7684fe6b76ec0b67be0d647452b0e68a43", func := "zoneinfo/zoneinfolaw07.TznameRoundTrip", spec := "tznameRoundTrip", inPlace := ["internal/bytealg.IndexByteString"], apart := false }
def TznameRoundTripSaid : Prop := tznameRoundTripRow.holds Try.pinned (OpenSpec.ofChange tznameRoundTripSpec)

/-- ITS FALSE NEIGHBOUR: 'it returns false'. Refute it at one input. -/
def tznameRoundTripWrong : ChangeSpec := { name := "tznameRoundTrip", fn := fun _ => fun
  | [d1, d2, d3] => { results := [.lit (.bool false)], args := [d1, d2, d3] }
  | _ => none }
def TznameRoundTripWrongFalsely : Prop := tznameRoundTripRow.holds Try.pinned (OpenSpec.ofChange tznameRoundTripWrong)

/-- 'zoneinfolaw07.TznameParseForms': WHATEVER THE INPUT: true; the input reads as it did. -/
def tznameParseFormsSpec : ChangeSpec := { name := "tznameParseForms", fn := fun _ => fun
  | [d] => { results := [.lit (.bool true)], args := [d] }
  | _ => none }
def tznameParseFormsRow : OpenClaim := { program := "ytphhooapdgaoaaa", sum := "94951552078086ce5b570d70061a0b7684fe6b76ec0b67be0d647452b0e68a43", func := "zoneinfo/zoneinfolaw07.TznameParseForms", spec := "tznameParseForms", inPlace := ["internal/bytealg.IndexByteString"], apart := false }
def TznameParseFormsSaid : Prop := tznameParseFormsRow.holds Try.pinned (OpenSpec.ofChange tznameParseFormsSpec)

/-- ITS FALSE NEIGHBOUR: 'it returns false'. Refute it at one input. -/
def tznameParseFormsWrong : ChangeSpec := { name := "tznameParseForms", fn := fun _ => fun
  | [d] => { results := [.lit (.bool false)], args := [d] }
  | _ => none }
def TznameParseFormsWrongFalsely : Prop := tznameParseFormsRow.holds Try.pinned (OpenSpec.ofChange tznameParseFormsWrong)

/-- 'zoneinfolaw07.TznameAlphabet': WHATEVER THE INPUT: true; the input reads as it did. -/
def tznameAlphabetSpec : ChangeSpec := { name := "tznameAlphabet", fn := fun _ => fun
  | [d1, d2, d3] => { results := [.lit (.bool true)], args := [d1, d2, d3] }
  | _ => none }
def tznameAlphabetRow : OpenClaim := { program := "ytphhooapdgaoaaa", sum := "94951552078086ce5b570d70061a0b7684fe6b76ec0b67be0d647452b0e68a43", func := "zoneinfo/zoneinfolaw07.TznameAlphabet", spec := "tznameAlphabet", inPlace := ["internal/bytealg.IndexByteString"], apart := false }
def TznameAlphabetSaid : Prop := tznameAlphabetRow.holds Try.pinned (OpenSpec.ofChange tznameAlphabetSpec)

/-- ITS FALSE NEIGHBOUR: 'it returns false'. Refute it at one input. -/
def tznameAlphabetWrong : ChangeSpec := { name := "tznameAlphabet", fn := fun _ => fun
  | [d1, d2, d3] => { results := [.lit (.bool false)], args := [d1, d2, d3] }
  | _ => none }
def TznameAlphabetWrongFalsely : Prop := tznameAlphabetRow.holds Try.pinned (OpenSpec.ofChange tznameAlphabetWrong)

/- THE SECOND FORM. 'bulk': how many values and letters a reading holds, each counted each time it is reached (what is shared counts as often as it is met; a slice's spare places count too). A statement '..UptoSaid' is the law's where the arguments, and the package variables that the reading takes, are together of bulk at most 1048576: NARROWER than '..Said'. Prove '..Said' where nothing that the law and all that it calls make is longer than what came in: it says more and counts as full. Else prove '..UptoSaid'. A law counts once. -/
mutual
def uptoBulk {H : Type} : DataW H → Nat
  | .lit (.string bytes) => bytes.length + 1
  | .lit _ => 1
  | .nil => 1
  | .ptr d => uptoBulk d + 1
  | .slice elems spare => uptoBulkAll elems + uptoBulkAll spare + 1
  | .agg parts => uptoBulkAll parts + 1
  | .iface _ d => uptoBulk d + 1
  | .map entries => uptoBulkEntries entries + 1
  | .held _ => 1
def uptoBulkAll {H : Type} : List (DataW H) → Nat
  | [] => 0
  | d :: r => uptoBulk d + uptoBulkAll r
def uptoBulkEntries {H : Type} : List (Lit × DataW H) → Nat
  | [] => 0
  | x :: r => uptoBulkEntry x + uptoBulkEntries r
def uptoBulkEntry {H : Type} : Lit × DataW H → Nat
  | (.string bytes, d) => bytes.length + uptoBulk d + 1
  | (_, d) => uptoBulk d + 1
 end
def uptoSmall : (H : Type) → List (DataW H) → Bool := fun _ ds => decide (uptoBulkAll ds ≤ 1048576)
def OpenSpec.upto (s : _root_.Go.ChangeSpec) : _root_.Go.OpenSpec := { _root_.Go.OpenSpec.ofChange s with cond := some uptoSmall }

/-- 'zoneinfolaw07.TznameMatchesReference', WHERE WHAT IT READS IS OF BULK AT MOST 1048576: true; the input reads as it did. -/
def tznameMatchesReferenceUptoRow : OpenClaim := { program := "ytphhooapdgaoaaa", sum := "94951552078086ce5b570d70061a0b7684fe6b76ec0b67be0d647452b0e68a43", func := "zoneinfo/zoneinfolaw07.TznameMatchesReference", spec := "tznameMatchesReference", inPlace := ["internal/bytealg.IndexByteString"], apart := false, narrowed := true }
def TznameMatchesReferenceUptoSaid : Prop := tznameMatchesReferenceUptoRow.holds Try.pinned (OpenSpec.upto tznameMatchesReferenceSpec)

/-- 'zoneinfolaw07.TznameRoundTrip', WHERE WHAT IT READS IS OF BULK AT MOST 1048576: true; the input reads as it did. -/
def tznameRoundTripUptoRow : OpenClaim := { program := "ytphhooapdgaoaaa", sum := "94951552078086ce5b570d70061a0b7684fe6b76ec0b67be0d647452b0e68a43", func := "zoneinfo/zoneinfolaw07.TznameRoundTrip", spec := "tznameRoundTrip", inPlace := ["internal/bytealg.IndexByteString"], apart := false, narrowed := true }
def TznameRoundTripUptoSaid : Prop := tznameRoundTripUptoRow.holds Try.pinned (OpenSpec.upto tznameRoundTripSpec)

/-- 'zoneinfolaw07.TznameParseForms', WHERE WHAT IT READS IS OF BULK AT MOST 1048576: true; the input reads as it did. -/
def tznameParseFormsUptoRow : OpenClaim := { program := "ytphhooapdgaoaaa", sum := "94951552078086ce5b570d70061a0b7684fe6b76ec0b67be0d647452b0e68a43", func := "zoneinfo/zoneinfolaw07.TznameParseForms", spec := "tznameParseForms", inPlace := ["internal/bytealg.IndexByteString"], apart := false, narrowed := true }
def TznameParseFormsUptoSaid : Prop := tznameParseFormsUptoRow.holds Try.pinned (OpenSpec.upto tznameParseFormsSpec)

/-- 'zoneinfolaw07.TznameAlphabet', WHERE WHAT IT READS IS OF BULK AT MOST 1048576: true; the input reads as it did. -/
def tznameAlphabetUptoRow : OpenClaim := { program := "ytphhooapdgaoaaa", sum := "94951552078086ce5b570d70061a0b7684fe6b76ec0b67be0d647452b0e68a43", func := "zoneinfo/zoneinfolaw07.TznameAlphabet", spec := "tznameAlphabet", inPlace := ["internal/bytealg.IndexByteString"], apart := false, narrowed := true }
def TznameAlphabetUptoSaid : Prop := tznameAlphabetUptoRow.holds Try.pinned (OpenSpec.upto tznameAlphabetSpec)

end Rows
end Go.Proofs.Ytphhooapdgaoaaa

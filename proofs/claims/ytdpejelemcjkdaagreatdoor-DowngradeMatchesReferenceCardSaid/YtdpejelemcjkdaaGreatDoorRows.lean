/-
  NARROWER THAN 'FOR EVERY INPUT', by the rows' own cells (each row's printed sentence says how): DowngradeMatchesReference: laid.
  DERIVED. THE GIVEN ROWS OF THIS SEAT. 1 by the template 'for every input the law returns true; each argument reads behind the call as it read before'; 0 by the template 'total and deterministic' (their statements: YtdpejelemcjkdaaGreatDoorTotals.lean).
  GIVEN WITH THE SEED: the statements are not yours to turn. If you find one false, say at which input.
  Laid BY PROGRAM, IN A SANDBOX (cutbox-rows.mjs): the forced cells as the released guide's own fill.sh prints them over the translation 78155ab0dff4bb62… (all of the seat's roots in one cut). By AI agents, Wed Nov 11 2026. No macro, syntax, notation, axiom, sorry.
-/
import Derived.Test.YtdpejelemcjkdaaGreatDoorChecked
import GoSem.Claim
import GoSem.ClaimJoined
import GoSem.ClaimMapViews
import Derived.JoinedTies
import Derived.KernelRfl
namespace Go.Proofs.YtdpejelemcjkdaaGreatDoor
/- THE CELL 'sum', in the pinned program and in every row, IS THE sha256 OF THE DUMP (.gsa) THAT YtdpejelemcjkdaaGreatDoorProg.lean LOADS. Nothing in Lean hashes anything: it is a label: what it is worth is what the hold of that sum in a sandbox is worth. -/
noncomputable def Tryz.pinned : Pinned := { name := "ytdpejelemcjkdaagreatdoor", sum := "78155ab0dff4bb6216ad4fa511a5dba38c7c8d1375312f4f211e23a25773efdc", checked := Tryz.checked }
namespace Rows
def none {H : Type} : Left H := { results := [], args := [] }

/- WHAT THE LISTED PACKAGE-LEVEL VARIABLES READ AS WHEN THE CALL BEGINS. Each datum BY PROGRAM (the guide's laid-datum.mjs) off the statement by which the dump's own 'gosem.cut.vars' lays the variable. In a bare row this is a premise. The card (YtdpejelemcjkdaaGreatDoorCards.lean) ties it to the program's text. -/
def laid_zoneinfo_leaps_rules {H : Type} : DataW H := .iface "func table" (.slice [.agg [.lit (.string [116, 105, 109, 101]), .iface "func" (.lit (.string [122, 111, 110, 101, 105, 110, 102, 111, 47, 108, 101, 97, 112, 115, 46, 114, 117, 108, 101, 115, 36, 49]))], .agg [.lit (.string [102, 105, 114, 115, 116, 32, 99, 111, 114, 114, 101, 99, 116, 105, 111, 110]), .iface "func" (.lit (.string [122, 111, 110, 101, 105, 110, 102, 111, 47, 108, 101, 97, 112, 115, 46, 114, 117, 108, 101, 115, 36, 50]))], .agg [.lit (.string [115, 116, 101, 112]), .iface "func" (.lit (.string [122, 111, 110, 101, 105, 110, 102, 111, 47, 108, 101, 97, 112, 115, 46, 114, 117, 108, 101, 115, 36, 51]))]] [])
def laid_zoneinfo_downgrade_ways {H : Type} : DataW H := .iface "func table" (.map [(.int .i64 1, .iface "func" (.lit (.string [122, 111, 110, 101, 105, 110, 102, 111, 47, 100, 111, 119, 110, 103, 114, 97, 100, 101, 46, 119, 97, 121, 115, 36, 49]))), (.int .i64 2, .iface "func" (.lit (.string [122, 111, 110, 101, 105, 110, 102, 111, 47, 100, 111, 119, 110, 103, 114, 97, 100, 101, 46, 119, 105, 100, 101]))), (.int .i64 3, .iface "func" (.lit (.string [122, 111, 110, 101, 105, 110, 102, 111, 47, 100, 111, 119, 110, 103, 114, 97, 100, 101, 46, 119, 105, 100, 101]))), (.int .i64 4, .iface "func" (.lit (.string [122, 111, 110, 101, 105, 110, 102, 111, 47, 100, 111, 119, 110, 103, 114, 97, 100, 101, 46, 119, 105, 100, 101])))])

/-- 'zoneinfolaw26.DowngradeMatchesReference': WHATEVER THE INPUT: true; the input reads as it did. -/
def downgradeMatchesReferenceSpec : ChangeSpec := { name := "downgradeMatchesReference", fn := fun _ => fun
  | [d1, d2] => { results := [.lit (.bool true)], args := [d1, d2] }
  | _ => none }
def downgradeMatchesReferenceRow : OpenClaim := { program := "ytdpejelemcjkdaagreatdoor", sum := "78155ab0dff4bb6216ad4fa511a5dba38c7c8d1375312f4f211e23a25773efdc", func := "zoneinfo/zoneinfolaw26.DowngradeMatchesReference", spec := "downgradeMatchesReference", inPlace := ["internal/bytealg.IndexByteString"], unfollowed := true, recurses := true, named := ["zoneinfo/downgrade.ways", "zoneinfo/leaps.rules"], apart := false, laid := [("zoneinfo/leaps.rules", laid_zoneinfo_leaps_rules), ("zoneinfo/downgrade.ways", laid_zoneinfo_downgrade_ways)] }
def DowngradeMatchesReferenceSaid : Prop := downgradeMatchesReferenceRow.holds Tryz.pinned (OpenSpec.ofChange downgradeMatchesReferenceSpec)

/-- ITS FALSE NEIGHBOUR: 'it returns false'. Refute it at one input. -/
def downgradeMatchesReferenceWrong : ChangeSpec := { name := "downgradeMatchesReference", fn := fun _ => fun
  | [d1, d2] => { results := [.lit (.bool false)], args := [d1, d2] }
  | _ => none }
def DowngradeMatchesReferenceWrongFalsely : Prop := downgradeMatchesReferenceRow.holds Tryz.pinned (OpenSpec.ofChange downgradeMatchesReferenceWrong)

/- THE SECOND FORM. 'bulk': how many values and letters a reading holds, each counted each time it is reached (what is shared counts as often as it is met; a slice's spare places count too). A statement '..UptoSaid' is the law's where the arguments, and the package variables that the reading takes, are together of bulk at most 1048576: NARROWER than '..Said'. Prove '..Said' where nothing that the law and all that it calls make is longer than what came in: it says more and counts as full. Else prove '..UptoSaid'. A law counts once. -/
mutual
def uptoBulk {H : Type} : DataW H → Nat
  | .lit (.string bytes) => bytes.length + 1
  | .lit _ => 1
  | .nil => 1
  | .ptr d => uptoBulk d + 1
  | .slice elems spare => uptoBulkAll elems + uptoBulkAll spare + 1
  | .agg parts => uptoBulkAll parts + 1
  | .iface _ d => uptoBulk d + 1
  | .map entries => uptoBulkEntries entries + 1
  | .held _ => 1
def uptoBulkAll {H : Type} : List (DataW H) → Nat
  | [] => 0
  | d :: r => uptoBulk d + uptoBulkAll r
def uptoBulkEntries {H : Type} : List (Lit × DataW H) → Nat
  | [] => 0
  | x :: r => uptoBulkEntry x + uptoBulkEntries r
def uptoBulkEntry {H : Type} : Lit × DataW H → Nat
  | (.string bytes, d) => bytes.length + uptoBulk d + 1
  | (_, d) => uptoBulk d + 1
 end
def uptoSmall : (H : Type) → List (DataW H) → Bool := fun _ ds => decide (uptoBulkAll ds ≤ 1048576)
def OpenSpec.upto (s : _root_.Go.ChangeSpec) : _root_.Go.OpenSpec := { _root_.Go.OpenSpec.ofChange s with cond := some uptoSmall }

/-- 'zoneinfolaw26.DowngradeMatchesReference', WHERE WHAT IT READS IS OF BULK AT MOST 1048576: true; the input reads as it did. -/
def downgradeMatchesReferenceUptoRow : OpenClaim := { program := "ytdpejelemcjkdaagreatdoor", sum := "78155ab0dff4bb6216ad4fa511a5dba38c7c8d1375312f4f211e23a25773efdc", func := "zoneinfo/zoneinfolaw26.DowngradeMatchesReference", spec := "downgradeMatchesReference", inPlace := ["internal/bytealg.IndexByteString"], unfollowed := true, recurses := true, named := ["zoneinfo/downgrade.ways", "zoneinfo/leaps.rules"], apart := false, laid := [("zoneinfo/leaps.rules", laid_zoneinfo_leaps_rules), ("zoneinfo/downgrade.ways", laid_zoneinfo_downgrade_ways)], narrowed := true }
def DowngradeMatchesReferenceUptoSaid : Prop := downgradeMatchesReferenceUptoRow.holds Tryz.pinned (OpenSpec.upto downgradeMatchesReferenceSpec)

end Rows
end Go.Proofs.YtdpejelemcjkdaaGreatDoor

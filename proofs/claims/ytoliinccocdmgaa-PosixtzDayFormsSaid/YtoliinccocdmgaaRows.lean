/-
  No cell of these rows narrows 'for every input' (looked for: loops, veiled, ifaces, maps, wideKeys, modest, calm, conditions, laid).
  DERIVED. THE GIVEN ROWS OF THIS SEAT. 4 by the template 'for every input the law returns true; each argument reads behind the call as it read before'; 0 by the template 'total and deterministic' (their statements: YtoliinccocdmgaaTotals.lean).
  GIVEN WITH THE SEED: the statements are not yours to turn. If you find one false, say at which input.
  Laid BY PROGRAM, IN A SANDBOX (cutbox-rows.mjs): the forced cells as the released guide's own fill.sh prints them over the translation 8c3cfaf0736eec95… (all of the seat's roots in one cut). By AI agents, Wed Nov 11 2026. No macro, syntax, notation, axiom, sorry.
-/
import Derived.Test.YtoliinccocdmgaaChecked
import GoSem.Claim
import GoSem.ClaimJoined
import GoSem.ClaimMapViews
import Derived.JoinedTies
import Derived.KernelRfl
namespace Go.Proofs.Ytoliinccocdmgaa
/- THE CELL 'sum', in the pinned program and in every row, IS THE sha256 OF THE DUMP (.gsa) THAT YtoliinccocdmgaaProg.lean LOADS. Nothing in Lean hashes anything: it is a label: what it is worth is what the hold of that sum in a sandbox is worth. -/
noncomputable def Try.pinned : Pinned := { name := "ytoliinccocdmgaa", sum := "8c3cfaf0736eec95e3ef8b47c74d5ee4db150b221254294a5f137a36cf50105c", checked := Try.checked }
namespace Rows
def none {H : Type} : Left H := { results := [], args := [] }

/-- 'zoneinfolaw09.PosixtzAcceptsExactly': WHATEVER THE INPUT: true; the input reads as it did. -/
def posixtzAcceptsExactlySpec : ChangeSpec := { name := "posixtzAcceptsExactly", fn := fun _ => fun
  | [d] => { results := [.lit (.bool true)], args := [d] }
  | _ => none }
def posixtzAcceptsExactlyRow : OpenClaim := { program := "ytoliinccocdmgaa", sum := "8c3cfaf0736eec95e3ef8b47c74d5ee4db150b221254294a5f137a36cf50105c", func := "zoneinfo/zoneinfolaw09.PosixtzAcceptsExactly", spec := "posixtzAcceptsExactly", inPlace := ["internal/bytealg.IndexByteString"], unfollowed := true, recurses := true, apart := false }
def PosixtzAcceptsExactlySaid : Prop := posixtzAcceptsExactlyRow.holds Try.pinned (OpenSpec.ofChange posixtzAcceptsExactlySpec)

/-- ITS FALSE NEIGHBOUR: 'it returns false'. Refute it at one input. -/
def posixtzAcceptsExactlyWrong : ChangeSpec := { name := "posixtzAcceptsExactly", fn := fun _ => fun
  | [d] => { results := [.lit (.bool false)], args := [d] }
  | _ => none }
def PosixtzAcceptsExactlyWrongFalsely : Prop := posixtzAcceptsExactlyRow.holds Try.pinned (OpenSpec.ofChange posixtzAcceptsExactlyWrong)

/-- 'zoneinfolaw09.PosixtzParts': WHATEVER THE INPUT: true; the input reads as it did. -/
def posixtzPartsSpec : ChangeSpec := { name := "posixtzParts", fn := fun _ => fun
  | [d1, d2, d3, d4, d5, d6] => { results := [.lit (.bool true)], args := [d1, d2, d3, d4, d5, d6] }
  | _ => none }
def posixtzPartsRow : OpenClaim := { program := "ytoliinccocdmgaa", sum := "8c3cfaf0736eec95e3ef8b47c74d5ee4db150b221254294a5f137a36cf50105c", func := "zoneinfo/zoneinfolaw09.PosixtzParts", spec := "posixtzParts", inPlace := ["internal/bytealg.IndexByteString"], unfollowed := true, recurses := true, apart := false }
def PosixtzPartsSaid : Prop := posixtzPartsRow.holds Try.pinned (OpenSpec.ofChange posixtzPartsSpec)

/-- ITS FALSE NEIGHBOUR: 'it returns false'. Refute it at one input. -/
def posixtzPartsWrong : ChangeSpec := { name := "posixtzParts", fn := fun _ => fun
  | [d1, d2, d3, d4, d5, d6] => { results := [.lit (.bool false)], args := [d1, d2, d3, d4, d5, d6] }
  | _ => none }
def PosixtzPartsWrongFalsely : Prop := posixtzPartsRow.holds Try.pinned (OpenSpec.ofChange posixtzPartsWrong)

/-- 'zoneinfolaw09.PosixtzDefaults': WHATEVER THE INPUT: true; the input reads as it did. -/
def posixtzDefaultsSpec : ChangeSpec := { name := "posixtzDefaults", fn := fun _ => fun
  | [d1, d2, d3, d4] => { results := [.lit (.bool true)], args := [d1, d2, d3, d4] }
  | _ => none }
def posixtzDefaultsRow : OpenClaim := { program := "ytoliinccocdmgaa", sum := "8c3cfaf0736eec95e3ef8b47c74d5ee4db150b221254294a5f137a36cf50105c", func := "zoneinfo/zoneinfolaw09.PosixtzDefaults", spec := "posixtzDefaults", inPlace := ["internal/bytealg.IndexByteString"], unfollowed := true, recurses := true, apart := false }
def PosixtzDefaultsSaid : Prop := posixtzDefaultsRow.holds Try.pinned (OpenSpec.ofChange posixtzDefaultsSpec)

/-- ITS FALSE NEIGHBOUR: 'it returns false'. Refute it at one input. -/
def posixtzDefaultsWrong : ChangeSpec := { name := "posixtzDefaults", fn := fun _ => fun
  | [d1, d2, d3, d4] => { results := [.lit (.bool false)], args := [d1, d2, d3, d4] }
  | _ => none }
def PosixtzDefaultsWrongFalsely : Prop := posixtzDefaultsRow.holds Try.pinned (OpenSpec.ofChange posixtzDefaultsWrong)

/-- 'zoneinfolaw09.PosixtzDayForms': WHATEVER THE INPUT: true; the input reads as it did. -/
def posixtzDayFormsSpec : ChangeSpec := { name := "posixtzDayForms", fn := fun _ => fun
  | [d] => { results := [.lit (.bool true)], args := [d] }
  | _ => none }
def posixtzDayFormsRow : OpenClaim := { program := "ytoliinccocdmgaa", sum := "8c3cfaf0736eec95e3ef8b47c74d5ee4db150b221254294a5f137a36cf50105c", func := "zoneinfo/zoneinfolaw09.PosixtzDayForms", spec := "posixtzDayForms", inPlace := ["internal/bytealg.IndexByteString"], unfollowed := true, recurses := true, apart := false }
def PosixtzDayFormsSaid : Prop := posixtzDayFormsRow.holds Try.pinned (OpenSpec.ofChange posixtzDayFormsSpec)

/-- ITS FALSE NEIGHBOUR: 'it returns false'. Refute it at one input. -/
def posixtzDayFormsWrong : ChangeSpec := { name := "posixtzDayForms", fn := fun _ => fun
  | [d] => { results := [.lit (.bool false)], args := [d] }
  | _ => none }
def PosixtzDayFormsWrongFalsely : Prop := posixtzDayFormsRow.holds Try.pinned (OpenSpec.ofChange posixtzDayFormsWrong)

/- THE SECOND FORM. 'bulk': how many values and letters a reading holds, each counted each time it is reached (what is shared counts as often as it is met; a slice's spare places count too). A statement '..UptoSaid' is the law's where the arguments, and the package variables that the reading takes, are together of bulk at most 1048576: NARROWER than '..Said'. Prove '..Said' where nothing that the law and all that it calls make is longer than what came in: it says more and counts as full. Else prove '..UptoSaid'. A law counts once. -/
mutual
def uptoBulk {H : Type} : DataW H → Nat
  | .lit (.string bytes) => bytes.length + 1
  | .lit _ => 1
  | .nil => 1
  | .ptr d => uptoBulk d + 1
  | .slice elems spare => uptoBulkAll elems + uptoBulkAll spare + 1
  | .agg parts => uptoBulkAll parts + 1
  | .iface _ d => uptoBulk d + 1
  | .map entries => uptoBulkEntries entries + 1
  | .held _ => 1
def uptoBulkAll {H : Type} : List (DataW H) → Nat
  | [] => 0
  | d :: r => uptoBulk d + uptoBulkAll r
def uptoBulkEntries {H : Type} : List (Lit × DataW H) → Nat
  | [] => 0
  | x :: r => uptoBulkEntry x + uptoBulkEntries r
def uptoBulkEntry {H : Type} : Lit × DataW H → Nat
  | (.string bytes, d) => bytes.length + uptoBulk d + 1
  | (_, d) => uptoBulk d + 1
 end
def uptoSmall : (H : Type) → List (DataW H) → Bool := fun _ ds => decide (uptoBulkAll ds ≤ 1048576)
def OpenSpec.upto (s : _root_.Go.ChangeSpec) : _root_.Go.OpenSpec := { _root_.Go.OpenSpec.ofChange s with cond := some uptoSmall }

/-- 'zoneinfolaw09.PosixtzAcceptsExactly', WHERE WHAT IT READS IS OF BULK AT MOST 1048576: true; the input reads as it did. -/
def posixtzAcceptsExactlyUptoRow : OpenClaim := { program := "ytoliinccocdmgaa", sum := "8c3cfaf0736eec95e3ef8b47c74d5ee4db150b221254294a5f137a36cf50105c", func := "zoneinfo/zoneinfolaw09.PosixtzAcceptsExactly", spec := "posixtzAcceptsExactly", inPlace := ["internal/bytealg.IndexByteString"], unfollowed := true, recurses := true, apart := false, narrowed := true }
def PosixtzAcceptsExactlyUptoSaid : Prop := posixtzAcceptsExactlyUptoRow.holds Try.pinned (OpenSpec.upto posixtzAcceptsExactlySpec)

/-- 'zoneinfolaw09.PosixtzParts', WHERE WHAT IT READS IS OF BULK AT MOST 1048576: true; the input reads as it did. -/
def posixtzPartsUptoRow : OpenClaim := { program := "ytoliinccocdmgaa", sum := "8c3cfaf0736eec95e3ef8b47c74d5ee4db150b221254294a5f137a36cf50105c", func := "zoneinfo/zoneinfolaw09.PosixtzParts", spec := "posixtzParts", inPlace := ["internal/bytealg.IndexByteString"], unfollowed := true, recurses := true, apart := false, narrowed := true }
def PosixtzPartsUptoSaid : Prop := posixtzPartsUptoRow.holds Try.pinned (OpenSpec.upto posixtzPartsSpec)

/-- 'zoneinfolaw09.PosixtzDefaults', WHERE WHAT IT READS IS OF BULK AT MOST 1048576: true; the input reads as it did. -/
def posixtzDefaultsUptoRow : OpenClaim := { program := "ytoliinccocdmgaa", sum := "8c3cfaf0736eec95e3ef8b47c74d5ee4db150b221254294a5f137a36cf50105c", func := "zoneinfo/zoneinfolaw09.PosixtzDefaults", spec := "posixtzDefaults", inPlace := ["internal/bytealg.IndexByteString"], unfollowed := true, recurses := true, apart := false, narrowed := true }
def PosixtzDefaultsUptoSaid : Prop := posixtzDefaultsUptoRow.holds Try.pinned (OpenSpec.upto posixtzDefaultsSpec)

/-- 'zoneinfolaw09.PosixtzDayForms', WHERE WHAT IT READS IS OF BULK AT MOST 1048576: true; the input reads as it did. -/
def posixtzDayFormsUptoRow : OpenClaim := { program := "ytoliinccocdmgaa", sum := "8c3cfaf0736eec95e3ef8b47c74d5ee4db150b221254294a5f137a36cf50105c", func := "zoneinfo/zoneinfolaw09.PosixtzDayForms", spec := "posixtzDayForms", inPlace := ["internal/bytealg.IndexByteString"], unfollowed := true, recurses := true, apart := false, narrowed := true }
def PosixtzDayFormsUptoSaid : Prop := posixtzDayFormsUptoRow.holds Try.pinned (OpenSpec.upto posixtzDayFormsSpec)

end Rows
end Go.Proofs.Ytoliinccocdmgaa

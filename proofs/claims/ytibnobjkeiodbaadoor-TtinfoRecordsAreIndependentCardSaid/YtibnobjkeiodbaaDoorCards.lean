/-
  DERIVED. GIVEN WITH THE SEED: THE CARDS: each row of YtibnobjkeiodbaaDoorRows.lean that lists a variable, with what it lists TIED to the program's text (the seventh form; the later family's looks); each row that meets fmt, with fmt's text TOLD by the authors' own Lean function (tested against real Go, not proved from fmt's source: count such statements apart). THE CARD IS WHAT COUNTS. Prove the row's statement (the work); the ties are given (YtibnobjkeiodbaaDoorTie.lean); close each card by the builder's one call (the guide's Derived/Test/ToyasCard.lean, 'card_holds'). Laid BY PROGRAM, IN A SANDBOX (cutbox-door.mjs). By AI agents, Wed Nov 11 2026. No macro, syntax, notation, axiom, sorry.
-/
import Derived.Test.YtibnobjkeiodbaaDoorRows
import GoSem.ClaimSeven
namespace Go.Proofs.YtibnobjkeiodbaaDoor
namespace Rows

/-- THE TIED CARD OF 'zoneinfolaw16.TtinfoMatchesReference'. -/
def ttinfoMatchesReferenceCard : Claim7 := { stood := { row := ttinfoMatchesReferenceRow, standIns := [], harness := (true, "3e63b6b5e1f329ce7addf5de6fc7b581e9aa05af54e37d0dee6f47c69842fe20"), looks := true }, kinds := [], alts := [], laidByText := true, laidKinds := [.handle], laidTests := true, laidLooks := .later }
def TtinfoMatchesReferenceCardSaid : Prop := Claim7.holds Tryd.pinned (.plain (OpenSpec.ofChange ttinfoMatchesReferenceSpec)) ttinfoMatchesReferenceCard

/-- THE TIED CARD OF 'zoneinfolaw16.TtinfoRoundTrip'. -/
def ttinfoRoundTripCard : Claim7 := { stood := { row := ttinfoRoundTripRow, standIns := [], harness := (true, "3e63b6b5e1f329ce7addf5de6fc7b581e9aa05af54e37d0dee6f47c69842fe20"), looks := true }, kinds := [], alts := [], laidByText := true, laidKinds := [.handle], laidTests := true, laidLooks := .later }
def TtinfoRoundTripCardSaid : Prop := Claim7.holds Tryd.pinned (.plain (OpenSpec.ofChange ttinfoRoundTripSpec)) ttinfoRoundTripCard

/-- THE TIED CARD OF 'zoneinfolaw16.TtinfoCheck'. -/
def ttinfoCheckCard : Claim7 := { stood := { row := ttinfoCheckRow, standIns := [], harness := (true, "3e63b6b5e1f329ce7addf5de6fc7b581e9aa05af54e37d0dee6f47c69842fe20"), looks := true }, kinds := [], alts := [], laidByText := true, laidKinds := [.handle], laidTests := true, laidLooks := .later }
def TtinfoCheckCardSaid : Prop := Claim7.holds Tryd.pinned (.plain (OpenSpec.ofChange ttinfoCheckSpec)) ttinfoCheckCard

/-- THE TIED CARD OF 'zoneinfolaw16.TtinfoRecordsAreIndependent'. -/
def ttinfoRecordsAreIndependentCard : Claim7 := { stood := { row := ttinfoRecordsAreIndependentRow, standIns := [], harness := (true, "3e63b6b5e1f329ce7addf5de6fc7b581e9aa05af54e37d0dee6f47c69842fe20"), looks := true }, kinds := [], alts := [], laidByText := true, laidKinds := [.handle], laidTests := true, laidLooks := .later }
def TtinfoRecordsAreIndependentCardSaid : Prop := Claim7.holds Tryd.pinned (.plain (OpenSpec.ofChange ttinfoRecordsAreIndependentSpec)) ttinfoRecordsAreIndependentCard

/-- THE SECOND FORM's CARD OF 'zoneinfolaw16.TtinfoMatchesReference'. -/
def ttinfoMatchesReferenceUptoCard : Claim7 := { stood := { row := ttinfoMatchesReferenceUptoRow, standIns := [], harness := (true, "3e63b6b5e1f329ce7addf5de6fc7b581e9aa05af54e37d0dee6f47c69842fe20"), looks := true }, kinds := [], alts := [], laidByText := true, laidKinds := [.handle], laidTests := true, laidLooks := .later }
def TtinfoMatchesReferenceUptoCardSaid : Prop := Claim7.holds Tryd.pinned (.plain (OpenSpec.upto ttinfoMatchesReferenceSpec)) ttinfoMatchesReferenceUptoCard

/-- THE SECOND FORM's CARD OF 'zoneinfolaw16.TtinfoRoundTrip'. -/
def ttinfoRoundTripUptoCard : Claim7 := { stood := { row := ttinfoRoundTripUptoRow, standIns := [], harness := (true, "3e63b6b5e1f329ce7addf5de6fc7b581e9aa05af54e37d0dee6f47c69842fe20"), looks := true }, kinds := [], alts := [], laidByText := true, laidKinds := [.handle], laidTests := true, laidLooks := .later }
def TtinfoRoundTripUptoCardSaid : Prop := Claim7.holds Tryd.pinned (.plain (OpenSpec.upto ttinfoRoundTripSpec)) ttinfoRoundTripUptoCard

/-- THE SECOND FORM's CARD OF 'zoneinfolaw16.TtinfoCheck'. -/
def ttinfoCheckUptoCard : Claim7 := { stood := { row := ttinfoCheckUptoRow, standIns := [], harness := (true, "3e63b6b5e1f329ce7addf5de6fc7b581e9aa05af54e37d0dee6f47c69842fe20"), looks := true }, kinds := [], alts := [], laidByText := true, laidKinds := [.handle], laidTests := true, laidLooks := .later }
def TtinfoCheckUptoCardSaid : Prop := Claim7.holds Tryd.pinned (.plain (OpenSpec.upto ttinfoCheckSpec)) ttinfoCheckUptoCard

/-- THE SECOND FORM's CARD OF 'zoneinfolaw16.TtinfoRecordsAreIndependent'. -/
def ttinfoRecordsAreIndependentUptoCard : Claim7 := { stood := { row := ttinfoRecordsAreIndependentUptoRow, standIns := [], harness := (true, "3e63b6b5e1f329ce7addf5de6fc7b581e9aa05af54e37d0dee6f47c69842fe20"), looks := true }, kinds := [], alts := [], laidByText := true, laidKinds := [.handle], laidTests := true, laidLooks := .later }
def TtinfoRecordsAreIndependentUptoCardSaid : Prop := Claim7.holds Tryd.pinned (.plain (OpenSpec.upto ttinfoRecordsAreIndependentSpec)) ttinfoRecordsAreIndependentUptoCard
end Rows
end Go.Proofs.YtibnobjkeiodbaaDoor

/-
  DERIVED. GIVEN WITH THE SEED: THE CARDS: each row of YtgadloeechbkkaaDoorRows.lean that lists a variable, with what it lists TIED to the program's text (the seventh form; the later family's looks); each row that meets fmt, with fmt's text TOLD by the authors' own Lean function (tested against real Go, not proved from fmt's source: count such statements apart). THE CARD IS WHAT COUNTS. Prove the row's statement (the work); the ties are given (YtgadloeechbkkaaDoorTie.lean); close each card by the builder's one call (the guide's Derived/Test/ToyasCard.lean, 'card_holds'). Laid BY PROGRAM, IN A SANDBOX (cutbox-door.mjs). By AI agents, Wed Nov 11 2026. No macro, syntax, notation, axiom, sorry.
-/
import Derived.Test.YtgadloeechbkkaaDoorRows
import GoSem.ClaimSeven
namespace Go.Proofs.YtgadloeechbkkaaDoor
namespace Rows

/-- THE TIED CARD OF 'zoneinfolaw10.TzformatMatchesReference'. -/
def tzformatMatchesReferenceCard : Claim7 := { stood := { row := tzformatMatchesReferenceRow, standIns := [], harness := (true, "f9c56c1266a573118643ca7df9f1ee2828778eb0edd857dec8194ad707e099c8"), looks := true }, kinds := [], alts := [], laidByText := true, laidKinds := [.data, .data, .data], laidTests := true, laidLooks := .later }
def TzformatMatchesReferenceCardSaid : Prop := Claim7.holds Tryd.pinned (.plain (OpenSpec.ofChange tzformatMatchesReferenceSpec)) tzformatMatchesReferenceCard

/-- THE TIED CARD OF 'zoneinfolaw10.TzformatRoundTrip'. -/
def tzformatRoundTripCard : Claim7 := { stood := { row := tzformatRoundTripRow, standIns := [], harness := (true, "f9c56c1266a573118643ca7df9f1ee2828778eb0edd857dec8194ad707e099c8"), looks := true }, kinds := [], alts := [], laidByText := true, laidKinds := [.data, .data, .data], laidTests := true, laidLooks := .later }
def TzformatRoundTripCardSaid : Prop := Claim7.holds Tryd.pinned (.plain (OpenSpec.ofChange tzformatRoundTripSpec)) tzformatRoundTripCard

/-- THE TIED CARD OF 'zoneinfolaw10.TzformatCanonical'. -/
def tzformatCanonicalCard : Claim7 := { stood := { row := tzformatCanonicalRow, standIns := [], harness := (true, "f9c56c1266a573118643ca7df9f1ee2828778eb0edd857dec8194ad707e099c8"), looks := true }, kinds := [], alts := [], laidByText := true, laidKinds := [.data, .data, .data], laidTests := true, laidLooks := .later }
def TzformatCanonicalCardSaid : Prop := Claim7.holds Tryd.pinned (.plain (OpenSpec.ofChange tzformatCanonicalSpec)) tzformatCanonicalCard

/-- THE TIED CARD OF 'zoneinfolaw10.TzformatExtended'. -/
def tzformatExtendedCard : Claim7 := { stood := { row := tzformatExtendedRow, standIns := [], harness := (true, "f9c56c1266a573118643ca7df9f1ee2828778eb0edd857dec8194ad707e099c8"), looks := true }, kinds := [], alts := [], laidByText := true, laidKinds := [.data, .data, .data], laidTests := true, laidLooks := .later }
def TzformatExtendedCardSaid : Prop := Claim7.holds Tryd.pinned (.plain (OpenSpec.ofChange tzformatExtendedSpec)) tzformatExtendedCard

/-- THE TIED CARD OF 'zoneinfolaw10.TzformatParts'. -/
def tzformatPartsCard : Claim7 := { stood := { row := tzformatPartsRow, standIns := [], harness := (true, "f9c56c1266a573118643ca7df9f1ee2828778eb0edd857dec8194ad707e099c8"), looks := true }, kinds := [], alts := [], laidByText := true, laidKinds := [.data, .data, .data], laidTests := true, laidLooks := .later }
def TzformatPartsCardSaid : Prop := Claim7.holds Tryd.pinned (.plain (OpenSpec.ofChange tzformatPartsSpec)) tzformatPartsCard

/-- THE SECOND FORM's CARD OF 'zoneinfolaw10.TzformatMatchesReference'. -/
def tzformatMatchesReferenceUptoCard : Claim7 := { stood := { row := tzformatMatchesReferenceUptoRow, standIns := [], harness := (true, "f9c56c1266a573118643ca7df9f1ee2828778eb0edd857dec8194ad707e099c8"), looks := true }, kinds := [], alts := [], laidByText := true, laidKinds := [.data, .data, .data], laidTests := true, laidLooks := .later }
def TzformatMatchesReferenceUptoCardSaid : Prop := Claim7.holds Tryd.pinned (.plain (OpenSpec.upto tzformatMatchesReferenceSpec)) tzformatMatchesReferenceUptoCard

/-- THE SECOND FORM's CARD OF 'zoneinfolaw10.TzformatRoundTrip'. -/
def tzformatRoundTripUptoCard : Claim7 := { stood := { row := tzformatRoundTripUptoRow, standIns := [], harness := (true, "f9c56c1266a573118643ca7df9f1ee2828778eb0edd857dec8194ad707e099c8"), looks := true }, kinds := [], alts := [], laidByText := true, laidKinds := [.data, .data, .data], laidTests := true, laidLooks := .later }
def TzformatRoundTripUptoCardSaid : Prop := Claim7.holds Tryd.pinned (.plain (OpenSpec.upto tzformatRoundTripSpec)) tzformatRoundTripUptoCard

/-- THE SECOND FORM's CARD OF 'zoneinfolaw10.TzformatCanonical'. -/
def tzformatCanonicalUptoCard : Claim7 := { stood := { row := tzformatCanonicalUptoRow, standIns := [], harness := (true, "f9c56c1266a573118643ca7df9f1ee2828778eb0edd857dec8194ad707e099c8"), looks := true }, kinds := [], alts := [], laidByText := true, laidKinds := [.data, .data, .data], laidTests := true, laidLooks := .later }
def TzformatCanonicalUptoCardSaid : Prop := Claim7.holds Tryd.pinned (.plain (OpenSpec.upto tzformatCanonicalSpec)) tzformatCanonicalUptoCard

/-- THE SECOND FORM's CARD OF 'zoneinfolaw10.TzformatExtended'. -/
def tzformatExtendedUptoCard : Claim7 := { stood := { row := tzformatExtendedUptoRow, standIns := [], harness := (true, "f9c56c1266a573118643ca7df9f1ee2828778eb0edd857dec8194ad707e099c8"), looks := true }, kinds := [], alts := [], laidByText := true, laidKinds := [.data, .data, .data], laidTests := true, laidLooks := .later }
def TzformatExtendedUptoCardSaid : Prop := Claim7.holds Tryd.pinned (.plain (OpenSpec.upto tzformatExtendedSpec)) tzformatExtendedUptoCard

/-- THE SECOND FORM's CARD OF 'zoneinfolaw10.TzformatParts'. -/
def tzformatPartsUptoCard : Claim7 := { stood := { row := tzformatPartsUptoRow, standIns := [], harness := (true, "f9c56c1266a573118643ca7df9f1ee2828778eb0edd857dec8194ad707e099c8"), looks := true }, kinds := [], alts := [], laidByText := true, laidKinds := [.data, .data, .data], laidTests := true, laidLooks := .later }
def TzformatPartsUptoCardSaid : Prop := Claim7.holds Tryd.pinned (.plain (OpenSpec.upto tzformatPartsSpec)) tzformatPartsUptoCard
end Rows
end Go.Proofs.YtgadloeechbkkaaDoor

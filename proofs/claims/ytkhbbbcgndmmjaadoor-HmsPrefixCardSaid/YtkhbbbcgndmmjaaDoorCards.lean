/-
  DERIVED. GIVEN WITH THE SEED: THE CARDS: each row of YtkhbbbcgndmmjaaDoorRows.lean that lists a variable, with what it lists TIED to the program's text (the seventh form; the later family's looks); each row that meets fmt, with fmt's text TOLD by the authors' own Lean function (tested against real Go, not proved from fmt's source: count such statements apart). THE CARD IS WHAT COUNTS. Prove the row's statement (the work); the ties are given (YtkhbbbcgndmmjaaDoorTie.lean); close each card by the builder's one call (the guide's Derived/Test/ToyasCard.lean, 'card_holds'). Laid BY PROGRAM, IN A SANDBOX (cutbox-door.mjs). By AI agents, Wed Nov 11 2026. No macro, syntax, notation, axiom, sorry.
-/
import Derived.Test.YtkhbbbcgndmmjaaDoorRows
import GoSem.ClaimSeven
namespace Go.Proofs.YtkhbbbcgndmmjaaDoor
namespace Rows

/-- THE TIED CARD OF 'zoneinfolaw08.HmsMatchesReference'. -/
def hmsMatchesReferenceCard : Claim7 := { stood := { row := hmsMatchesReferenceRow, standIns := [], harness := (true, "ae621775552180cac5416c32c4a46d05ade289856ac6ac9fc96c898a2e4d8b2d"), looks := false }, kinds := [], alts := [], laidByText := true, laidKinds := [.data, .data, .data], laidTests := true, laidLooks := .later }
def HmsMatchesReferenceCardSaid : Prop := Claim7.holds Tryd.pinned (.plain (OpenSpec.ofChange hmsMatchesReferenceSpec)) hmsMatchesReferenceCard

/-- THE TIED CARD OF 'zoneinfolaw08.HmsRoundTrip'. -/
def hmsRoundTripCard : Claim7 := { stood := { row := hmsRoundTripRow, standIns := [], harness := (true, "ae621775552180cac5416c32c4a46d05ade289856ac6ac9fc96c898a2e4d8b2d"), looks := false }, kinds := [], alts := [], laidByText := true, laidKinds := [.data, .data, .data], laidTests := true, laidLooks := .later }
def HmsRoundTripCardSaid : Prop := Claim7.holds Tryd.pinned (.plain (OpenSpec.ofChange hmsRoundTripSpec)) hmsRoundTripCard

/-- THE TIED CARD OF 'zoneinfolaw08.HmsPrefix'. -/
def hmsPrefixCard : Claim7 := { stood := { row := hmsPrefixRow, standIns := [], harness := (true, "ae621775552180cac5416c32c4a46d05ade289856ac6ac9fc96c898a2e4d8b2d"), looks := false }, kinds := [], alts := [], laidByText := true, laidKinds := [.data, .data, .data], laidTests := true, laidLooks := .later }
def HmsPrefixCardSaid : Prop := Claim7.holds Tryd.pinned (.plain (OpenSpec.ofChange hmsPrefixSpec)) hmsPrefixCard

/-- THE TIED CARD OF 'zoneinfolaw08.HmsFields'. -/
def hmsFieldsCard : Claim7 := { stood := { row := hmsFieldsRow, standIns := [], harness := (true, "ae621775552180cac5416c32c4a46d05ade289856ac6ac9fc96c898a2e4d8b2d"), looks := false }, kinds := [], alts := [], laidByText := true, laidKinds := [.data, .data, .data], laidTests := true, laidLooks := .later }
def HmsFieldsCardSaid : Prop := Claim7.holds Tryd.pinned (.plain (OpenSpec.ofChange hmsFieldsSpec)) hmsFieldsCard

/-- THE TIED CARD OF 'zoneinfolaw08.HmsSigns'. -/
def hmsSignsCard : Claim7 := { stood := { row := hmsSignsRow, standIns := [], harness := (true, "ae621775552180cac5416c32c4a46d05ade289856ac6ac9fc96c898a2e4d8b2d"), looks := false }, kinds := [], alts := [], laidByText := true, laidKinds := [.data, .data, .data], laidTests := true, laidLooks := .later }
def HmsSignsCardSaid : Prop := Claim7.holds Tryd.pinned (.plain (OpenSpec.ofChange hmsSignsSpec)) hmsSignsCard

/-- THE SECOND FORM's CARD OF 'zoneinfolaw08.HmsMatchesReference'. -/
def hmsMatchesReferenceUptoCard : Claim7 := { stood := { row := hmsMatchesReferenceUptoRow, standIns := [], harness := (true, "ae621775552180cac5416c32c4a46d05ade289856ac6ac9fc96c898a2e4d8b2d"), looks := false }, kinds := [], alts := [], laidByText := true, laidKinds := [.data, .data, .data], laidTests := true, laidLooks := .later }
def HmsMatchesReferenceUptoCardSaid : Prop := Claim7.holds Tryd.pinned (.plain (OpenSpec.upto hmsMatchesReferenceSpec)) hmsMatchesReferenceUptoCard

/-- THE SECOND FORM's CARD OF 'zoneinfolaw08.HmsRoundTrip'. -/
def hmsRoundTripUptoCard : Claim7 := { stood := { row := hmsRoundTripUptoRow, standIns := [], harness := (true, "ae621775552180cac5416c32c4a46d05ade289856ac6ac9fc96c898a2e4d8b2d"), looks := false }, kinds := [], alts := [], laidByText := true, laidKinds := [.data, .data, .data], laidTests := true, laidLooks := .later }
def HmsRoundTripUptoCardSaid : Prop := Claim7.holds Tryd.pinned (.plain (OpenSpec.upto hmsRoundTripSpec)) hmsRoundTripUptoCard

/-- THE SECOND FORM's CARD OF 'zoneinfolaw08.HmsPrefix'. -/
def hmsPrefixUptoCard : Claim7 := { stood := { row := hmsPrefixUptoRow, standIns := [], harness := (true, "ae621775552180cac5416c32c4a46d05ade289856ac6ac9fc96c898a2e4d8b2d"), looks := false }, kinds := [], alts := [], laidByText := true, laidKinds := [.data, .data, .data], laidTests := true, laidLooks := .later }
def HmsPrefixUptoCardSaid : Prop := Claim7.holds Tryd.pinned (.plain (OpenSpec.upto hmsPrefixSpec)) hmsPrefixUptoCard

/-- THE SECOND FORM's CARD OF 'zoneinfolaw08.HmsFields'. -/
def hmsFieldsUptoCard : Claim7 := { stood := { row := hmsFieldsUptoRow, standIns := [], harness := (true, "ae621775552180cac5416c32c4a46d05ade289856ac6ac9fc96c898a2e4d8b2d"), looks := false }, kinds := [], alts := [], laidByText := true, laidKinds := [.data, .data, .data], laidTests := true, laidLooks := .later }
def HmsFieldsUptoCardSaid : Prop := Claim7.holds Tryd.pinned (.plain (OpenSpec.upto hmsFieldsSpec)) hmsFieldsUptoCard

/-- THE SECOND FORM's CARD OF 'zoneinfolaw08.HmsSigns'. -/
def hmsSignsUptoCard : Claim7 := { stood := { row := hmsSignsUptoRow, standIns := [], harness := (true, "ae621775552180cac5416c32c4a46d05ade289856ac6ac9fc96c898a2e4d8b2d"), looks := false }, kinds := [], alts := [], laidByText := true, laidKinds := [.data, .data, .data], laidTests := true, laidLooks := .later }
def HmsSignsUptoCardSaid : Prop := Claim7.holds Tryd.pinned (.plain (OpenSpec.upto hmsSignsSpec)) hmsSignsUptoCard
end Rows
end Go.Proofs.YtkhbbbcgndmmjaaDoor

/-
  DERIVED. GIVEN WITH THE SEED: THE CARDS: each row of YtmmioohcgdnpdaaDoorRows.lean that lists a variable, with what it lists TIED to the program's text (the seventh form; the later family's looks); each row that meets fmt, with fmt's text TOLD by the authors' own Lean function (tested against real Go, not proved from fmt's source: count such statements apart). THE CARD IS WHAT COUNTS. Prove the row's statement (the work); the ties are given (YtmmioohcgdnpdaaDoorTie.lean); close each card by the builder's one call (the guide's Derived/Test/ToyasCard.lean, 'card_holds'). Laid BY PROGRAM, IN A SANDBOX (cutbox-door.mjs). By AI agents, Wed Nov 11 2026. No macro, syntax, notation, axiom, sorry.
-/
import Derived.Test.YtmmioohcgdnpdaaDoorRows
import GoSem.ClaimSeven
namespace Go.Proofs.YtmmioohcgdnpdaaDoor
namespace Rows

/-- THE TIED CARD OF 'zoneinfolaw19.BlockMatchesReference'. -/
def blockMatchesReferenceCard : Claim7 := { stood := { row := blockMatchesReferenceRow, standIns := [], harness := (true, "febf3267a2925cad97396517c6c45298abcb02c5df3ec0ef736831142fc102a8"), looks := true }, kinds := [], alts := [], laidByText := true, laidKinds := [.data, .handle], laidTests := true, laidLooks := .later }
def BlockMatchesReferenceCardSaid : Prop := Claim7.holds Tryd.pinned (.plain (OpenSpec.ofChange blockMatchesReferenceSpec)) blockMatchesReferenceCard

/-- THE TIED CARD OF 'zoneinfolaw19.BlockRoundTrip'. -/
def blockRoundTripCard : Claim7 := { stood := { row := blockRoundTripRow, standIns := [], harness := (true, "febf3267a2925cad97396517c6c45298abcb02c5df3ec0ef736831142fc102a8"), looks := true }, kinds := [], alts := [], laidByText := true, laidKinds := [.data, .handle], laidTests := true, laidLooks := .later }
def BlockRoundTripCardSaid : Prop := Claim7.holds Tryd.pinned (.plain (OpenSpec.ofChange blockRoundTripSpec)) blockRoundTripCard

/-- THE TIED CARD OF 'zoneinfolaw19.BlockIsCanonical'. -/
def blockIsCanonicalCard : Claim7 := { stood := { row := blockIsCanonicalRow, standIns := [], harness := (true, "febf3267a2925cad97396517c6c45298abcb02c5df3ec0ef736831142fc102a8"), looks := true }, kinds := [], alts := [], laidByText := true, laidKinds := [.data, .handle], laidTests := true, laidLooks := .later }
def BlockIsCanonicalCardSaid : Prop := Claim7.holds Tryd.pinned (.plain (OpenSpec.ofChange blockIsCanonicalSpec)) blockIsCanonicalCard

/-- THE TIED CARD OF 'zoneinfolaw19.BlockHugeCounts'. -/
def blockHugeCountsCard : Claim7 := { stood := { row := blockHugeCountsRow, standIns := [], harness := (true, "febf3267a2925cad97396517c6c45298abcb02c5df3ec0ef736831142fc102a8"), looks := true }, kinds := [], alts := [], laidByText := true, laidKinds := [.data, .handle], laidTests := true, laidLooks := .later }
def BlockHugeCountsCardSaid : Prop := Claim7.holds Tryd.pinned (.plain (OpenSpec.ofChange blockHugeCountsSpec)) blockHugeCountsCard

/-- THE TIED CARD OF 'zoneinfolaw19.BlockDoesNotAlias'. -/
def blockDoesNotAliasCard : Claim7 := { stood := { row := blockDoesNotAliasRow, standIns := [], harness := (true, "febf3267a2925cad97396517c6c45298abcb02c5df3ec0ef736831142fc102a8"), looks := true }, kinds := [], alts := [], laidByText := true, laidKinds := [.data, .handle], laidTests := true, laidLooks := .later }
def BlockDoesNotAliasCardSaid : Prop := Claim7.holds Tryd.pinned (.plain (OpenSpec.ofChange blockDoesNotAliasSpec)) blockDoesNotAliasCard

/-- THE SECOND FORM's CARD OF 'zoneinfolaw19.BlockMatchesReference'. -/
def blockMatchesReferenceUptoCard : Claim7 := { stood := { row := blockMatchesReferenceUptoRow, standIns := [], harness := (true, "febf3267a2925cad97396517c6c45298abcb02c5df3ec0ef736831142fc102a8"), looks := true }, kinds := [], alts := [], laidByText := true, laidKinds := [.data, .handle], laidTests := true, laidLooks := .later }
def BlockMatchesReferenceUptoCardSaid : Prop := Claim7.holds Tryd.pinned (.plain (OpenSpec.upto blockMatchesReferenceSpec)) blockMatchesReferenceUptoCard

/-- THE SECOND FORM's CARD OF 'zoneinfolaw19.BlockRoundTrip'. -/
def blockRoundTripUptoCard : Claim7 := { stood := { row := blockRoundTripUptoRow, standIns := [], harness := (true, "febf3267a2925cad97396517c6c45298abcb02c5df3ec0ef736831142fc102a8"), looks := true }, kinds := [], alts := [], laidByText := true, laidKinds := [.data, .handle], laidTests := true, laidLooks := .later }
def BlockRoundTripUptoCardSaid : Prop := Claim7.holds Tryd.pinned (.plain (OpenSpec.upto blockRoundTripSpec)) blockRoundTripUptoCard

/-- THE SECOND FORM's CARD OF 'zoneinfolaw19.BlockIsCanonical'. -/
def blockIsCanonicalUptoCard : Claim7 := { stood := { row := blockIsCanonicalUptoRow, standIns := [], harness := (true, "febf3267a2925cad97396517c6c45298abcb02c5df3ec0ef736831142fc102a8"), looks := true }, kinds := [], alts := [], laidByText := true, laidKinds := [.data, .handle], laidTests := true, laidLooks := .later }
def BlockIsCanonicalUptoCardSaid : Prop := Claim7.holds Tryd.pinned (.plain (OpenSpec.upto blockIsCanonicalSpec)) blockIsCanonicalUptoCard

/-- THE SECOND FORM's CARD OF 'zoneinfolaw19.BlockHugeCounts'. -/
def blockHugeCountsUptoCard : Claim7 := { stood := { row := blockHugeCountsUptoRow, standIns := [], harness := (true, "febf3267a2925cad97396517c6c45298abcb02c5df3ec0ef736831142fc102a8"), looks := true }, kinds := [], alts := [], laidByText := true, laidKinds := [.data, .handle], laidTests := true, laidLooks := .later }
def BlockHugeCountsUptoCardSaid : Prop := Claim7.holds Tryd.pinned (.plain (OpenSpec.upto blockHugeCountsSpec)) blockHugeCountsUptoCard

/-- THE SECOND FORM's CARD OF 'zoneinfolaw19.BlockDoesNotAlias'. -/
def blockDoesNotAliasUptoCard : Claim7 := { stood := { row := blockDoesNotAliasUptoRow, standIns := [], harness := (true, "febf3267a2925cad97396517c6c45298abcb02c5df3ec0ef736831142fc102a8"), looks := true }, kinds := [], alts := [], laidByText := true, laidKinds := [.data, .handle], laidTests := true, laidLooks := .later }
def BlockDoesNotAliasUptoCardSaid : Prop := Claim7.holds Tryd.pinned (.plain (OpenSpec.upto blockDoesNotAliasSpec)) blockDoesNotAliasUptoCard
end Rows
end Go.Proofs.YtmmioohcgdnpdaaDoor

/-
  DERIVED. GIVEN WITH THE SEED: THE CARDS: each row of YthdioiodfodlpaaGreatDoorRows.lean that lists a variable, with what it lists TIED to the program's text (the seventh form; the later family's looks); each row that meets fmt, with fmt's text TOLD by the authors' own Lean function (tested against real Go, not proved from fmt's source: count such statements apart). THE CARD IS WHAT COUNTS. Prove the row's statement (the work); the ties are given (YthdioiodfodlpaaGreatDoorTie.lean); close each card by the builder's one call (the guide's Derived/Test/ToyasCard.lean, 'card_holds'). Laid BY PROGRAM, IN A SANDBOX (cutbox-door.mjs). By AI agents, Wed Nov 11 2026. No macro, syntax, notation, axiom, sorry.
-/
import Derived.Test.YthdioiodfodlpaaGreatDoorRows
import GoSem.ClaimSeven
namespace Go.Proofs.YthdioiodfodlpaaGreatDoor
namespace Rows

/-- THE TIED CARD OF 'zoneinfolaw27.CostMatchesReference'. -/
def costMatchesReferenceCard : Claim7 := { stood := { row := costMatchesReferenceRow, standIns := [], harness := (true, "8c3cdcc70911e09c87a74fe7acb87e6ca77da717f9efada0c536f7373f28444c"), looks := true }, kinds := [], alts := [], laidByText := true, laidKinds := [.data, .data, .handle], laidTests := true, laidLooks := .later }
def CostMatchesReferenceCardSaid : Prop := Claim7.holds Tryz.pinned (.plain (OpenSpec.ofChange costMatchesReferenceSpec)) costMatchesReferenceCard

/-- THE TIED CARD OF 'zoneinfolaw27.CostIsLinear'. -/
def costIsLinearCard : Claim7 := { stood := { row := costIsLinearRow, standIns := [], harness := (true, "8c3cdcc70911e09c87a74fe7acb87e6ca77da717f9efada0c536f7373f28444c"), looks := true }, kinds := [], alts := [], laidByText := true, laidKinds := [.data, .data, .handle], laidTests := true, laidLooks := .later }
def CostIsLinearCardSaid : Prop := Claim7.holds Tryz.pinned (.plain (OpenSpec.ofChange costIsLinearSpec)) costIsLinearCard

/-- THE TIED CARD OF 'zoneinfolaw27.CostOfHugeHeader'. -/
def costOfHugeHeaderCard : Claim7 := { stood := { row := costOfHugeHeaderRow, standIns := [], harness := (true, "8c3cdcc70911e09c87a74fe7acb87e6ca77da717f9efada0c536f7373f28444c"), looks := true }, kinds := [], alts := [], laidByText := true, laidKinds := [.data, .data, .handle], laidTests := true, laidLooks := .later }
def CostOfHugeHeaderCardSaid : Prop := Claim7.holds Tryz.pinned (.plain (OpenSpec.ofChange costOfHugeHeaderSpec)) costOfHugeHeaderCard

/-- THE TIED CARD OF 'zoneinfolaw27.CostOfFiles'. -/
def costOfFilesCard : Claim7 := { stood := { row := costOfFilesRow, standIns := [], harness := (true, "8c3cdcc70911e09c87a74fe7acb87e6ca77da717f9efada0c536f7373f28444c"), looks := true }, kinds := [], alts := [], laidByText := true, laidKinds := [.data, .data, .handle], laidTests := true, laidLooks := .later }
def CostOfFilesCardSaid : Prop := Claim7.holds Tryz.pinned (.plain (OpenSpec.ofChange costOfFilesSpec)) costOfFilesCard

/-- THE TIED CARD OF 'zoneinfolaw27.CostAddsUp'. -/
def costAddsUpCard : Claim7 := { stood := { row := costAddsUpRow, standIns := [], harness := (true, "8c3cdcc70911e09c87a74fe7acb87e6ca77da717f9efada0c536f7373f28444c"), looks := true }, kinds := [], alts := [], laidByText := true, laidKinds := [.data, .data, .handle], laidTests := true, laidLooks := .later }
def CostAddsUpCardSaid : Prop := Claim7.holds Tryz.pinned (.plain (OpenSpec.ofChange costAddsUpSpec)) costAddsUpCard

/-- THE SECOND FORM's CARD OF 'zoneinfolaw27.CostMatchesReference'. -/
def costMatchesReferenceUptoCard : Claim7 := { stood := { row := costMatchesReferenceUptoRow, standIns := [], harness := (true, "8c3cdcc70911e09c87a74fe7acb87e6ca77da717f9efada0c536f7373f28444c"), looks := true }, kinds := [], alts := [], laidByText := true, laidKinds := [.data, .data, .handle], laidTests := true, laidLooks := .later }
def CostMatchesReferenceUptoCardSaid : Prop := Claim7.holds Tryz.pinned (.plain (OpenSpec.upto costMatchesReferenceSpec)) costMatchesReferenceUptoCard

/-- THE SECOND FORM's CARD OF 'zoneinfolaw27.CostIsLinear'. -/
def costIsLinearUptoCard : Claim7 := { stood := { row := costIsLinearUptoRow, standIns := [], harness := (true, "8c3cdcc70911e09c87a74fe7acb87e6ca77da717f9efada0c536f7373f28444c"), looks := true }, kinds := [], alts := [], laidByText := true, laidKinds := [.data, .data, .handle], laidTests := true, laidLooks := .later }
def CostIsLinearUptoCardSaid : Prop := Claim7.holds Tryz.pinned (.plain (OpenSpec.upto costIsLinearSpec)) costIsLinearUptoCard

/-- THE SECOND FORM's CARD OF 'zoneinfolaw27.CostOfHugeHeader'. -/
def costOfHugeHeaderUptoCard : Claim7 := { stood := { row := costOfHugeHeaderUptoRow, standIns := [], harness := (true, "8c3cdcc70911e09c87a74fe7acb87e6ca77da717f9efada0c536f7373f28444c"), looks := true }, kinds := [], alts := [], laidByText := true, laidKinds := [.data, .data, .handle], laidTests := true, laidLooks := .later }
def CostOfHugeHeaderUptoCardSaid : Prop := Claim7.holds Tryz.pinned (.plain (OpenSpec.upto costOfHugeHeaderSpec)) costOfHugeHeaderUptoCard

/-- THE SECOND FORM's CARD OF 'zoneinfolaw27.CostOfFiles'. -/
def costOfFilesUptoCard : Claim7 := { stood := { row := costOfFilesUptoRow, standIns := [], harness := (true, "8c3cdcc70911e09c87a74fe7acb87e6ca77da717f9efada0c536f7373f28444c"), looks := true }, kinds := [], alts := [], laidByText := true, laidKinds := [.data, .data, .handle], laidTests := true, laidLooks := .later }
def CostOfFilesUptoCardSaid : Prop := Claim7.holds Tryz.pinned (.plain (OpenSpec.upto costOfFilesSpec)) costOfFilesUptoCard

/-- THE SECOND FORM's CARD OF 'zoneinfolaw27.CostAddsUp'. -/
def costAddsUpUptoCard : Claim7 := { stood := { row := costAddsUpUptoRow, standIns := [], harness := (true, "8c3cdcc70911e09c87a74fe7acb87e6ca77da717f9efada0c536f7373f28444c"), looks := true }, kinds := [], alts := [], laidByText := true, laidKinds := [.data, .data, .handle], laidTests := true, laidLooks := .later }
def CostAddsUpUptoCardSaid : Prop := Claim7.holds Tryz.pinned (.plain (OpenSpec.upto costAddsUpSpec)) costAddsUpUptoCard
end Rows
end Go.Proofs.YthdioiodfodlpaaGreatDoor

/-
  DERIVED. GIVEN WITH THE SEED: THE CARDS: each row of YtmhnajhokkieoaaDoorRows.lean that lists a variable, with what it lists TIED to the program's text (the seventh form; the later family's looks); each row that meets fmt, with fmt's text TOLD by the authors' own Lean function (tested against real Go, not proved from fmt's source: count such statements apart). THE CARD IS WHAT COUNTS. Prove the row's statement (the work); the ties are given (YtmhnajhokkieoaaDoorTie.lean); close each card by the builder's one call (the guide's Derived/Test/ToyasCard.lean, 'card_holds'). Laid BY PROGRAM, IN A SANDBOX (cutbox-door.mjs). By AI agents, Wed Nov 11 2026. No macro, syntax, notation, axiom, sorry.
-/
import Derived.Test.YtmhnajhokkieoaaDoorRows
import GoSem.ClaimSeven
namespace Go.Proofs.YtmhnajhokkieoaaDoor
namespace Rows

/-- THE TIED CARD OF 'zoneinfolaw26.DowngradeInexpressible'. -/
def downgradeInexpressibleCard : Claim7 := { stood := { row := downgradeInexpressibleRow, standIns := [], harness := (true, "08a72909c31480a5239a4c83f00e1f8ca2750e8b6644a8e9c504c19f80b5c2d4"), looks := true }, kinds := [], alts := [], laidByText := true, laidKinds := [.funcs, .funcs], laidTests := true, laidLooks := .later }
def DowngradeInexpressibleCardSaid : Prop := Claim7.holds Tryd.pinned (.plain (OpenSpec.ofChange downgradeInexpressibleSpec)) downgradeInexpressibleCard

/-- THE TIED CARD OF 'zoneinfolaw26.DowngradeKeepsData'. -/
def downgradeKeepsDataCard : Claim7 := { stood := { row := downgradeKeepsDataRow, standIns := [], harness := (true, "08a72909c31480a5239a4c83f00e1f8ca2750e8b6644a8e9c504c19f80b5c2d4"), looks := true }, kinds := [], alts := [], laidByText := true, laidKinds := [.funcs, .funcs], laidTests := true, laidLooks := .later }
def DowngradeKeepsDataCardSaid : Prop := Claim7.holds Tryd.pinned (.plain (OpenSpec.ofChange downgradeKeepsDataSpec)) downgradeKeepsDataCard

/-- THE SECOND FORM's CARD OF 'zoneinfolaw26.DowngradeInexpressible'. -/
def downgradeInexpressibleUptoCard : Claim7 := { stood := { row := downgradeInexpressibleUptoRow, standIns := [], harness := (true, "08a72909c31480a5239a4c83f00e1f8ca2750e8b6644a8e9c504c19f80b5c2d4"), looks := true }, kinds := [], alts := [], laidByText := true, laidKinds := [.funcs, .funcs], laidTests := true, laidLooks := .later }
def DowngradeInexpressibleUptoCardSaid : Prop := Claim7.holds Tryd.pinned (.plain (OpenSpec.upto downgradeInexpressibleSpec)) downgradeInexpressibleUptoCard

/-- THE SECOND FORM's CARD OF 'zoneinfolaw26.DowngradeKeepsData'. -/
def downgradeKeepsDataUptoCard : Claim7 := { stood := { row := downgradeKeepsDataUptoRow, standIns := [], harness := (true, "08a72909c31480a5239a4c83f00e1f8ca2750e8b6644a8e9c504c19f80b5c2d4"), looks := true }, kinds := [], alts := [], laidByText := true, laidKinds := [.funcs, .funcs], laidTests := true, laidLooks := .later }
def DowngradeKeepsDataUptoCardSaid : Prop := Claim7.holds Tryd.pinned (.plain (OpenSpec.upto downgradeKeepsDataSpec)) downgradeKeepsDataUptoCard
end Rows
end Go.Proofs.YtmhnajhokkieoaaDoor

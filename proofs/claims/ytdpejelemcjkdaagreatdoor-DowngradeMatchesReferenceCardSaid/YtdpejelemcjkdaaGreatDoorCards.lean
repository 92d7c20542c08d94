/-
  DERIVED. GIVEN WITH THE SEED: THE CARDS: each row of YtdpejelemcjkdaaGreatDoorRows.lean that lists a variable, with what it lists TIED to the program's text (the seventh form; the later family's looks); each row that meets fmt, with fmt's text TOLD by the authors' own Lean function (tested against real Go, not proved from fmt's source: count such statements apart). THE CARD IS WHAT COUNTS. Prove the row's statement (the work); the ties are given (YtdpejelemcjkdaaGreatDoorTie.lean); close each card by the builder's one call (the guide's Derived/Test/ToyasCard.lean, 'card_holds'). Laid BY PROGRAM, IN A SANDBOX (cutbox-door.mjs). By AI agents, Wed Nov 11 2026. No macro, syntax, notation, axiom, sorry.
-/
import Derived.Test.YtdpejelemcjkdaaGreatDoorRows
import GoSem.ClaimSeven
namespace Go.Proofs.YtdpejelemcjkdaaGreatDoor
namespace Rows

/-- THE TIED CARD OF 'zoneinfolaw26.DowngradeMatchesReference'. -/
def downgradeMatchesReferenceCard : Claim7 := { stood := { row := downgradeMatchesReferenceRow, standIns := [], harness := (true, "bc372024b6028cf4d551849216c2ef8d77502affcded873c866c037bc4590139"), looks := true }, kinds := [], alts := [], laidByText := true, laidKinds := [.funcs, .funcs], laidTests := true, laidLooks := .later }
def DowngradeMatchesReferenceCardSaid : Prop := Claim7.holds Tryz.pinned (.plain (OpenSpec.ofChange downgradeMatchesReferenceSpec)) downgradeMatchesReferenceCard

/-- THE SECOND FORM's CARD OF 'zoneinfolaw26.DowngradeMatchesReference'. -/
def downgradeMatchesReferenceUptoCard : Claim7 := { stood := { row := downgradeMatchesReferenceUptoRow, standIns := [], harness := (true, "bc372024b6028cf4d551849216c2ef8d77502affcded873c866c037bc4590139"), looks := true }, kinds := [], alts := [], laidByText := true, laidKinds := [.funcs, .funcs], laidTests := true, laidLooks := .later }
def DowngradeMatchesReferenceUptoCardSaid : Prop := Claim7.holds Tryz.pinned (.plain (OpenSpec.upto downgradeMatchesReferenceSpec)) downgradeMatchesReferenceUptoCard
end Rows
end Go.Proofs.YtdpejelemcjkdaaGreatDoor

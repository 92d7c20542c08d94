/-
  DERIVED. GIVEN WITH THE SEED: THE PROGRAM's TIES (one call each: nine closed facts by the kernel) AND EACH ROW's TIE, after the 31st guide's Derived/Test/Toyas{Tie, Card}.lean. No idea stands in it: it is a product of the set-up. Laid BY PROGRAM, IN A SANDBOX (cutbox-door.mjs). By AI agents, Wed Nov 11 2026. No macro, syntax, notation, axiom, sorry.
-/
import Derived.Test.YtdpejelemcjkdaaGreatDoorRows
import Derived.LaidByTextLater
import Derived.SevenTiedAt
import Derived.LaidSub
import Derived.LaidOnce
namespace Go.Proofs.YtdpejelemcjkdaaGreatDoor
open Go
set_option maxRecDepth 100000
theorem seatTie1 : Tryz.prog.laidByTextLater [("zoneinfo/leaps.rules", Rows.laid_zoneinfo_leaps_rules), ("zoneinfo/downgrade.ways", Rows.laid_zoneinfo_downgrade_ways)] [.funcs, .funcs] true :=
  Program.laidByTextLater_by_one 42 8 2 (by kernel_rfl) (by kernel_rfl) (by kernel_rfl) (by kernel_rfl) (by kernel_rfl) (by kernel_rfl) (fun _ _ => by kernel_rfl)
theorem noOwnUnsafe : Tryz.pinned.checked.prog.headLifts.contains "ownunsafe" = false := by kernel_rfl
theorem tie : Tryz.prog.laidByTextLater [("zoneinfo/leaps.rules", Rows.laid_zoneinfo_leaps_rules), ("zoneinfo/downgrade.ways", Rows.laid_zoneinfo_downgrade_ways)] [.funcs, .funcs] true :=
  Program.laidByTextLater.sub seatTie1 ["zoneinfo/leaps.rules", "zoneinfo/downgrade.ways"] (by kernel_rfl) (by kernel_rfl)
theorem downgradeMatchesReference_row_tie : Rows.downgradeMatchesReferenceRow.laidByTextAt .later Tryz.pinned [.funcs, .funcs] true :=
  OpenClaim.laidByTextAt_later rfl rfl tie noOwnUnsafe
theorem downgradeMatchesReferenceUpto_row_tie : Rows.downgradeMatchesReferenceUptoRow.laidByTextAt .later Tryz.pinned [.funcs, .funcs] true :=
  OpenClaim.laidByTextAt_later rfl rfl tie noOwnUnsafe
end Go.Proofs.YtdpejelemcjkdaaGreatDoor

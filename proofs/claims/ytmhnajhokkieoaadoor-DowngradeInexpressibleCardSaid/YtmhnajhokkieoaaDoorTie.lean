/-
  DERIVED. GIVEN WITH THE SEED: THE PROGRAM's TIES (one call each: nine closed facts by the kernel) AND EACH ROW's TIE, after the 31st guide's Derived/Test/Toyas{Tie, Card}.lean. No idea stands in it: it is a product of the set-up. Laid BY PROGRAM, IN A SANDBOX (cutbox-door.mjs). By AI agents, Wed Nov 11 2026. No macro, syntax, notation, axiom, sorry.
-/
import Derived.Test.YtmhnajhokkieoaaDoorRows
import Derived.LaidByTextLater
import Derived.SevenTiedAt
import Derived.LaidSub
import Derived.LaidOnce
namespace Go.Proofs.YtmhnajhokkieoaaDoor
open Go
set_option maxRecDepth 100000
theorem seatTie1 : Tryd.prog.laidByTextLater [("zoneinfo/leaps.rules", Rows.laid_zoneinfo_leaps_rules), ("zoneinfo/downgrade.ways", Rows.laid_zoneinfo_downgrade_ways)] [.funcs, .funcs] true :=
  Program.laidByTextLater_by_one 42 8 2 (by kernel_rfl) (by kernel_rfl) (by kernel_rfl) (by kernel_rfl) (by kernel_rfl) (by kernel_rfl) (fun _ _ => by kernel_rfl)
theorem noOwnUnsafe : Tryd.pinned.checked.prog.headLifts.contains "ownunsafe" = false := by kernel_rfl
theorem tie : Tryd.prog.laidByTextLater [("zoneinfo/leaps.rules", Rows.laid_zoneinfo_leaps_rules), ("zoneinfo/downgrade.ways", Rows.laid_zoneinfo_downgrade_ways)] [.funcs, .funcs] true :=
  Program.laidByTextLater.sub seatTie1 ["zoneinfo/leaps.rules", "zoneinfo/downgrade.ways"] (by kernel_rfl) (by kernel_rfl)
theorem downgradeInexpressible_row_tie : Rows.downgradeInexpressibleRow.laidByTextAt .later Tryd.pinned [.funcs, .funcs] true :=
  OpenClaim.laidByTextAt_later rfl rfl tie noOwnUnsafe
theorem downgradeKeepsData_row_tie : Rows.downgradeKeepsDataRow.laidByTextAt .later Tryd.pinned [.funcs, .funcs] true :=
  OpenClaim.laidByTextAt_later rfl rfl tie noOwnUnsafe
theorem downgradeInexpressibleUpto_row_tie : Rows.downgradeInexpressibleUptoRow.laidByTextAt .later Tryd.pinned [.funcs, .funcs] true :=
  OpenClaim.laidByTextAt_later rfl rfl tie noOwnUnsafe
theorem downgradeKeepsDataUpto_row_tie : Rows.downgradeKeepsDataUptoRow.laidByTextAt .later Tryd.pinned [.funcs, .funcs] true :=
  OpenClaim.laidByTextAt_later rfl rfl tie noOwnUnsafe
end Go.Proofs.YtmhnajhokkieoaaDoor

/-
  DERIVED. GIVEN WITH THE SEED: THE PROGRAM's TIES (one call each: nine closed facts by the kernel) AND EACH ROW's TIE, after the 31st guide's Derived/Test/Toyas{Tie, Card}.lean. No idea stands in it: it is a product of the set-up. Laid BY PROGRAM, IN A SANDBOX (cutbox-door.mjs). By AI agents, Wed Nov 11 2026. No macro, syntax, notation, axiom, sorry.
-/
import Derived.Test.YtmmioohcgdnpdaaDoorRows
import Derived.LaidByTextLater
import Derived.SevenTiedAt
import Derived.LaidSub
import Derived.LaidOnce
namespace Go.Proofs.YtmmioohcgdnpdaaDoor
open Go
set_option maxRecDepth 100000
theorem seatTie1 : Tryd.prog.laidByTextLater [("zoneinfo/indicators.flags", Rows.laid_zoneinfo_indicators_flags), ("errors.errorType", Rows.laid_errors_errorType)] [.data, .handle] true :=
  Program.laidByTextLater_by_one 21 8 3 (by kernel_rfl) (by kernel_rfl) (by kernel_rfl) (by kernel_rfl) (by kernel_rfl) (by kernel_rfl) (fun _ _ => by kernel_rfl)
theorem noOwnUnsafe : Tryd.pinned.checked.prog.headLifts.contains "ownunsafe" = false := by kernel_rfl
theorem tie : Tryd.prog.laidByTextLater [("zoneinfo/indicators.flags", Rows.laid_zoneinfo_indicators_flags), ("errors.errorType", Rows.laid_errors_errorType)] [.data, .handle] true :=
  Program.laidByTextLater.sub seatTie1 ["zoneinfo/indicators.flags", "errors.errorType"] (by kernel_rfl) (by kernel_rfl)
theorem blockMatchesReference_row_tie : Rows.blockMatchesReferenceRow.laidByTextAt .later Tryd.pinned [.data, .handle] true :=
  OpenClaim.laidByTextAt_later rfl rfl tie noOwnUnsafe
theorem blockRoundTrip_row_tie : Rows.blockRoundTripRow.laidByTextAt .later Tryd.pinned [.data, .handle] true :=
  OpenClaim.laidByTextAt_later rfl rfl tie noOwnUnsafe
theorem blockIsCanonical_row_tie : Rows.blockIsCanonicalRow.laidByTextAt .later Tryd.pinned [.data, .handle] true :=
  OpenClaim.laidByTextAt_later rfl rfl tie noOwnUnsafe
theorem blockHugeCounts_row_tie : Rows.blockHugeCountsRow.laidByTextAt .later Tryd.pinned [.data, .handle] true :=
  OpenClaim.laidByTextAt_later rfl rfl tie noOwnUnsafe
theorem blockDoesNotAlias_row_tie : Rows.blockDoesNotAliasRow.laidByTextAt .later Tryd.pinned [.data, .handle] true :=
  OpenClaim.laidByTextAt_later rfl rfl tie noOwnUnsafe
theorem blockMatchesReferenceUpto_row_tie : Rows.blockMatchesReferenceUptoRow.laidByTextAt .later Tryd.pinned [.data, .handle] true :=
  OpenClaim.laidByTextAt_later rfl rfl tie noOwnUnsafe
theorem blockRoundTripUpto_row_tie : Rows.blockRoundTripUptoRow.laidByTextAt .later Tryd.pinned [.data, .handle] true :=
  OpenClaim.laidByTextAt_later rfl rfl tie noOwnUnsafe
theorem blockIsCanonicalUpto_row_tie : Rows.blockIsCanonicalUptoRow.laidByTextAt .later Tryd.pinned [.data, .handle] true :=
  OpenClaim.laidByTextAt_later rfl rfl tie noOwnUnsafe
theorem blockHugeCountsUpto_row_tie : Rows.blockHugeCountsUptoRow.laidByTextAt .later Tryd.pinned [.data, .handle] true :=
  OpenClaim.laidByTextAt_later rfl rfl tie noOwnUnsafe
theorem blockDoesNotAliasUpto_row_tie : Rows.blockDoesNotAliasUptoRow.laidByTextAt .later Tryd.pinned [.data, .handle] true :=
  OpenClaim.laidByTextAt_later rfl rfl tie noOwnUnsafe
end Go.Proofs.YtmmioohcgdnpdaaDoor

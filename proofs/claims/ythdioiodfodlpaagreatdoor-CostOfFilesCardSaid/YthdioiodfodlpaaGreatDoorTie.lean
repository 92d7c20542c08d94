/-
  DERIVED. GIVEN WITH THE SEED: THE PROGRAM's TIES (one call each: nine closed facts by the kernel) AND EACH ROW's TIE, after the 31st guide's Derived/Test/Toyas{Tie, Card}.lean. No idea stands in it: it is a product of the set-up. Laid BY PROGRAM, IN A SANDBOX (cutbox-door.mjs). By AI agents, Wed Nov 11 2026. No macro, syntax, notation, axiom, sorry.
-/
import Derived.Test.YthdioiodfodlpaaGreatDoorRows
import Derived.LaidByTextLater
import Derived.SevenTiedAt
import Derived.LaidSub
import Derived.LaidOnce
namespace Go.Proofs.YthdioiodfodlpaaGreatDoor
open Go
set_option maxRecDepth 100000
theorem seatTie1 : Tryz.prog.laidByTextLater [("zoneinfo/header.versions", Rows.laid_zoneinfo_header_versions), ("zoneinfo/indicators.flags", Rows.laid_zoneinfo_indicators_flags), ("errors.errorType", Rows.laid_errors_errorType)] [.data, .data, .handle] true :=
  Program.laidByTextLater_by_one 26 8 6 (by kernel_rfl) (by kernel_rfl) (by kernel_rfl) (by kernel_rfl) (by kernel_rfl) (by kernel_rfl) (fun _ _ => by kernel_rfl)
theorem noOwnUnsafe : Tryz.pinned.checked.prog.headLifts.contains "ownunsafe" = false := by kernel_rfl
theorem tie : Tryz.prog.laidByTextLater [("zoneinfo/header.versions", Rows.laid_zoneinfo_header_versions), ("zoneinfo/indicators.flags", Rows.laid_zoneinfo_indicators_flags), ("errors.errorType", Rows.laid_errors_errorType)] [.data, .data, .handle] true :=
  Program.laidByTextLater.sub seatTie1 ["zoneinfo/header.versions", "zoneinfo/indicators.flags", "errors.errorType"] (by kernel_rfl) (by kernel_rfl)
theorem costMatchesReference_row_tie : Rows.costMatchesReferenceRow.laidByTextAt .later Tryz.pinned [.data, .data, .handle] true :=
  OpenClaim.laidByTextAt_later rfl rfl tie noOwnUnsafe
theorem costIsLinear_row_tie : Rows.costIsLinearRow.laidByTextAt .later Tryz.pinned [.data, .data, .handle] true :=
  OpenClaim.laidByTextAt_later rfl rfl tie noOwnUnsafe
theorem costOfHugeHeader_row_tie : Rows.costOfHugeHeaderRow.laidByTextAt .later Tryz.pinned [.data, .data, .handle] true :=
  OpenClaim.laidByTextAt_later rfl rfl tie noOwnUnsafe
theorem costOfFiles_row_tie : Rows.costOfFilesRow.laidByTextAt .later Tryz.pinned [.data, .data, .handle] true :=
  OpenClaim.laidByTextAt_later rfl rfl tie noOwnUnsafe
theorem costAddsUp_row_tie : Rows.costAddsUpRow.laidByTextAt .later Tryz.pinned [.data, .data, .handle] true :=
  OpenClaim.laidByTextAt_later rfl rfl tie noOwnUnsafe
theorem costMatchesReferenceUpto_row_tie : Rows.costMatchesReferenceUptoRow.laidByTextAt .later Tryz.pinned [.data, .data, .handle] true :=
  OpenClaim.laidByTextAt_later rfl rfl tie noOwnUnsafe
theorem costIsLinearUpto_row_tie : Rows.costIsLinearUptoRow.laidByTextAt .later Tryz.pinned [.data, .data, .handle] true :=
  OpenClaim.laidByTextAt_later rfl rfl tie noOwnUnsafe
theorem costOfHugeHeaderUpto_row_tie : Rows.costOfHugeHeaderUptoRow.laidByTextAt .later Tryz.pinned [.data, .data, .handle] true :=
  OpenClaim.laidByTextAt_later rfl rfl tie noOwnUnsafe
theorem costOfFilesUpto_row_tie : Rows.costOfFilesUptoRow.laidByTextAt .later Tryz.pinned [.data, .data, .handle] true :=
  OpenClaim.laidByTextAt_later rfl rfl tie noOwnUnsafe
theorem costAddsUpUpto_row_tie : Rows.costAddsUpUptoRow.laidByTextAt .later Tryz.pinned [.data, .data, .handle] true :=
  OpenClaim.laidByTextAt_later rfl rfl tie noOwnUnsafe
end Go.Proofs.YthdioiodfodlpaaGreatDoor

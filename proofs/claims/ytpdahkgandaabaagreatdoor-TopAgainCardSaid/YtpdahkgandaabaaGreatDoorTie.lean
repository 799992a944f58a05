/-
  DERIVED. GIVEN WITH THE SEED: THE PROGRAM's TIES (one call each: nine closed facts by the kernel) AND EACH ROW's TIE, after the 31st guide's Derived/Test/Toyas{Tie, Card}.lean. No idea stands in it: it is a product of the set-up. Laid BY PROGRAM, IN A SANDBOX (cutbox-door.mjs). By AI agents, Wed Nov 11 2026. No macro, syntax, notation, axiom, sorry.
-/
import Derived.Test.YtpdahkgandaabaaGreatDoorRows
import Derived.LaidByTextLater
import Derived.SevenTiedAt
import Derived.LaidSub
import Derived.LaidOnce
namespace Go.Proofs.YtpdahkgandaabaaGreatDoor
open Go
set_option maxRecDepth 100000
theorem seatTie1 : Tryz.prog.laidByTextLater [("aneroid/wide.none", Rows.laid_aneroid_wide_none), ("aneroid/wide.least", Rows.laid_aneroid_wide_least), ("aneroid/sym.places", Rows.laid_aneroid_sym_places), ("aneroid/atmos.table", Rows.laid_aneroid_atmos_table), ("aneroid/spread.rows", Rows.laid_aneroid_spread_rows)] [.data, .data, .data, .widerDeep, .data] true :=
  Program.laidByTextLater_by_one 40 8 48 (by kernel_rfl) (by kernel_rfl) (by kernel_rfl) (by kernel_rfl) (by kernel_rfl) (by kernel_rfl) (fun _ _ => by kernel_rfl)
theorem noOwnUnsafe : Tryz.pinned.checked.prog.headLifts.contains "ownunsafe" = false := by kernel_rfl
theorem tie : Tryz.prog.laidByTextLater [("aneroid/wide.none", Rows.laid_aneroid_wide_none), ("aneroid/wide.least", Rows.laid_aneroid_wide_least), ("aneroid/sym.places", Rows.laid_aneroid_sym_places), ("aneroid/atmos.table", Rows.laid_aneroid_atmos_table), ("aneroid/spread.rows", Rows.laid_aneroid_spread_rows)] [.data, .data, .data, .widerDeep, .data] true :=
  Program.laidByTextLater.sub seatTie1 ["aneroid/wide.none", "aneroid/wide.least", "aneroid/sym.places", "aneroid/atmos.table", "aneroid/spread.rows"] (by kernel_rfl) (by kernel_rfl)
theorem topNames_row_tie : Rows.topNamesRow.laidByTextAt .later Tryz.pinned [.data, .data, .data, .widerDeep, .data] true :=
  OpenClaim.laidByTextAt_later rfl rfl tie noOwnUnsafe
theorem topAgain_row_tie : Rows.topAgainRow.laidByTextAt .later Tryz.pinned [.data, .data, .data, .widerDeep, .data] true :=
  OpenClaim.laidByTextAt_later rfl rfl tie noOwnUnsafe
theorem topNone_row_tie : Rows.topNoneRow.laidByTextAt .later Tryz.pinned [.data, .data, .data, .widerDeep, .data] true :=
  OpenClaim.laidByTextAt_later rfl rfl tie noOwnUnsafe
theorem topNamesUpto_row_tie : Rows.topNamesUptoRow.laidByTextAt .later Tryz.pinned [.data, .data, .data, .widerDeep, .data] true :=
  OpenClaim.laidByTextAt_later rfl rfl tie noOwnUnsafe
theorem topAgainUpto_row_tie : Rows.topAgainUptoRow.laidByTextAt .later Tryz.pinned [.data, .data, .data, .widerDeep, .data] true :=
  OpenClaim.laidByTextAt_later rfl rfl tie noOwnUnsafe
theorem topNoneUpto_row_tie : Rows.topNoneUptoRow.laidByTextAt .later Tryz.pinned [.data, .data, .data, .widerDeep, .data] true :=
  OpenClaim.laidByTextAt_later rfl rfl tie noOwnUnsafe
end Go.Proofs.YtpdahkgandaabaaGreatDoor

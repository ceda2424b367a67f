/-
  DERIVED. GIVEN WITH THE SEED: THE PROGRAM's TIES (one call each: nine closed facts by the kernel) AND EACH ROW's TIE, after the 31st guide's Derived/Test/Toyas{Tie, Card}.lean. No idea stands in it: it is a product of the set-up. Laid BY PROGRAM, IN A SANDBOX (cutbox-door.mjs). By AI agents, Wed Nov 11 2026. No macro, syntax, notation, axiom, sorry.
-/
import Derived.Test.YtlilffoflkkbdaaDoorRows
import Derived.LaidByTextLater
import Derived.SevenTiedAt
import Derived.LaidSub
import Derived.LaidOnce
namespace Go.Proofs.YtlilffoflkkbdaaDoor
open Go
set_option maxRecDepth 100000
theorem seatTie1 : Tryd.prog.laidByTextLater [("demurrage/civil.lengths", Rows.laid_demurrage_civil_lengths), ("demurrage/cal.none", Rows.laid_demurrage_cal_none), ("demurrage/roll.names", Rows.laid_demurrage_roll_names)] [.data, .data, .widerDeep] true :=
  Program.laidByTextLater_by_one 24 8 14 (by kernel_rfl) (by kernel_rfl) (by kernel_rfl) (by kernel_rfl) (by kernel_rfl) (by kernel_rfl) (fun _ _ => by kernel_rfl)
theorem noOwnUnsafe : Tryd.pinned.checked.prog.headLifts.contains "ownunsafe" = false := by kernel_rfl
theorem tie : Tryd.prog.laidByTextLater [("demurrage/civil.lengths", Rows.laid_demurrage_civil_lengths), ("demurrage/roll.names", Rows.laid_demurrage_roll_names)] [.data, .widerDeep] true :=
  Program.laidByTextLater.sub seatTie1 ["demurrage/civil.lengths", "demurrage/roll.names"] (by kernel_rfl) (by kernel_rfl)
theorem rollTells_row_tie : Rows.rollTellsRow.laidByTextAt .later Tryd.pinned [.data, .widerDeep] true :=
  OpenClaim.laidByTextAt_later rfl rfl tie noOwnUnsafe
theorem rollNearest_row_tie : Rows.rollNearestRow.laidByTextAt .later Tryd.pinned [.data, .widerDeep] true :=
  OpenClaim.laidByTextAt_later rfl rfl tie noOwnUnsafe
theorem rollMonth_row_tie : Rows.rollMonthRow.laidByTextAt .later Tryd.pinned [.data, .widerDeep] true :=
  OpenClaim.laidByTextAt_later rfl rfl tie noOwnUnsafe
theorem rollRises_row_tie : Rows.rollRisesRow.laidByTextAt .later Tryd.pinned [.data, .widerDeep] true :=
  OpenClaim.laidByTextAt_later rfl rfl tie noOwnUnsafe
theorem rollOpen_row_tie : Rows.rollOpenRow.laidByTextAt .later Tryd.pinned [.data, .widerDeep] true :=
  OpenClaim.laidByTextAt_later rfl rfl tie noOwnUnsafe
theorem rollTwins_row_tie : Rows.rollTwinsRow.laidByTextAt .later Tryd.pinned [.data, .widerDeep] true :=
  OpenClaim.laidByTextAt_later rfl rfl tie noOwnUnsafe
theorem tie2 : Tryd.prog.laidByTextLater [("demurrage/civil.lengths", Rows.laid_demurrage_civil_lengths), ("demurrage/cal.none", Rows.laid_demurrage_cal_none)] [.data, .data] true :=
  Program.laidByTextLater.sub seatTie1 ["demurrage/civil.lengths", "demurrage/cal.none"] (by kernel_rfl) (by kernel_rfl)
theorem calTells_row_tie : Rows.calTellsRow.laidByTextAt .later Tryd.pinned [.data, .data] true :=
  OpenClaim.laidByTextAt_later rfl rfl tie2 noOwnUnsafe
theorem calUnites_row_tie : Rows.calUnitesRow.laidByTextAt .later Tryd.pinned [.data, .data] true :=
  OpenClaim.laidByTextAt_later rfl rfl tie2 noOwnUnsafe
theorem calBoth_row_tie : Rows.calBothRow.laidByTextAt .later Tryd.pinned [.data, .data] true :=
  OpenClaim.laidByTextAt_later rfl rfl tie2 noOwnUnsafe
theorem calSums_row_tie : Rows.calSumsRow.laidByTextAt .later Tryd.pinned [.data, .data] true :=
  OpenClaim.laidByTextAt_later rfl rfl tie2 noOwnUnsafe
theorem calWeeks_row_tie : Rows.calWeeksRow.laidByTextAt .later Tryd.pinned [.data, .data] true :=
  OpenClaim.laidByTextAt_later rfl rfl tie2 noOwnUnsafe
theorem calRules_row_tie : Rows.calRulesRow.laidByTextAt .later Tryd.pinned [.data, .data] true :=
  OpenClaim.laidByTextAt_later rfl rfl tie2 noOwnUnsafe
theorem calOrder_row_tie : Rows.calOrderRow.laidByTextAt .later Tryd.pinned [.data, .data] true :=
  OpenClaim.laidByTextAt_later rfl rfl tie2 noOwnUnsafe
theorem calWhole_row_tie : Rows.calWholeRow.laidByTextAt .later Tryd.pinned [.data, .data] true :=
  OpenClaim.laidByTextAt_later rfl rfl tie2 noOwnUnsafe
theorem rollTellsUpto_row_tie : Rows.rollTellsUptoRow.laidByTextAt .later Tryd.pinned [.data, .widerDeep] true :=
  OpenClaim.laidByTextAt_later rfl rfl tie noOwnUnsafe
theorem rollNearestUpto_row_tie : Rows.rollNearestUptoRow.laidByTextAt .later Tryd.pinned [.data, .widerDeep] true :=
  OpenClaim.laidByTextAt_later rfl rfl tie noOwnUnsafe
theorem rollMonthUpto_row_tie : Rows.rollMonthUptoRow.laidByTextAt .later Tryd.pinned [.data, .widerDeep] true :=
  OpenClaim.laidByTextAt_later rfl rfl tie noOwnUnsafe
theorem rollRisesUpto_row_tie : Rows.rollRisesUptoRow.laidByTextAt .later Tryd.pinned [.data, .widerDeep] true :=
  OpenClaim.laidByTextAt_later rfl rfl tie noOwnUnsafe
theorem rollOpenUpto_row_tie : Rows.rollOpenUptoRow.laidByTextAt .later Tryd.pinned [.data, .widerDeep] true :=
  OpenClaim.laidByTextAt_later rfl rfl tie noOwnUnsafe
theorem rollTwinsUpto_row_tie : Rows.rollTwinsUptoRow.laidByTextAt .later Tryd.pinned [.data, .widerDeep] true :=
  OpenClaim.laidByTextAt_later rfl rfl tie noOwnUnsafe
theorem calTellsUpto_row_tie : Rows.calTellsUptoRow.laidByTextAt .later Tryd.pinned [.data, .data] true :=
  OpenClaim.laidByTextAt_later rfl rfl tie2 noOwnUnsafe
theorem calUnitesUpto_row_tie : Rows.calUnitesUptoRow.laidByTextAt .later Tryd.pinned [.data, .data] true :=
  OpenClaim.laidByTextAt_later rfl rfl tie2 noOwnUnsafe
theorem calBothUpto_row_tie : Rows.calBothUptoRow.laidByTextAt .later Tryd.pinned [.data, .data] true :=
  OpenClaim.laidByTextAt_later rfl rfl tie2 noOwnUnsafe
theorem calSumsUpto_row_tie : Rows.calSumsUptoRow.laidByTextAt .later Tryd.pinned [.data, .data] true :=
  OpenClaim.laidByTextAt_later rfl rfl tie2 noOwnUnsafe
theorem calWeeksUpto_row_tie : Rows.calWeeksUptoRow.laidByTextAt .later Tryd.pinned [.data, .data] true :=
  OpenClaim.laidByTextAt_later rfl rfl tie2 noOwnUnsafe
theorem calRulesUpto_row_tie : Rows.calRulesUptoRow.laidByTextAt .later Tryd.pinned [.data, .data] true :=
  OpenClaim.laidByTextAt_later rfl rfl tie2 noOwnUnsafe
theorem calOrderUpto_row_tie : Rows.calOrderUptoRow.laidByTextAt .later Tryd.pinned [.data, .data] true :=
  OpenClaim.laidByTextAt_later rfl rfl tie2 noOwnUnsafe
theorem calWholeUpto_row_tie : Rows.calWholeUptoRow.laidByTextAt .later Tryd.pinned [.data, .data] true :=
  OpenClaim.laidByTextAt_later rfl rfl tie2 noOwnUnsafe
end Go.Proofs.YtlilffoflkkbdaaDoor

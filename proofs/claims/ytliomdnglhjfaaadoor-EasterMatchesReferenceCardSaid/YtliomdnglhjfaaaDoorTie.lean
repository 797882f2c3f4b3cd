/-
  DERIVED. GIVEN WITH THE SEED: THE PROGRAM's TIES (one call each: nine closed facts by the kernel) AND EACH ROW's TIE, after the 31st guide's Derived/Test/Toyas{Tie, Card}.lean. No idea stands in it: it is a product of the set-up. Laid BY PROGRAM, IN A SANDBOX (cutbox-door.mjs). By AI agents, Wed Nov 11 2026. No macro, syntax, notation, axiom, sorry.
-/
import Derived.Test.YtliomdnglhjfaaaDoorRows
import Derived.LaidByTextLater
import Derived.SevenTiedAt
import Derived.LaidSub
import Derived.LaidOnce
namespace Go.Proofs.YtliomdnglhjfaaaDoor
open Go
set_option maxRecDepth 100000
theorem seatTie1 : Tryd.prog.laidByTextLater [("computus/julian.lengths", Rows.laid_computus_julian_lengths), ("computus/label.lengths", Rows.laid_computus_label_lengths), ("computus/label.spans", Rows.laid_computus_label_spans)] [.data, .widerDeep, .data] true :=
  Program.laidByTextLater_by_one 24 8 13 (by kernel_rfl) (by kernel_rfl) (by kernel_rfl) (by kernel_rfl) (by kernel_rfl) (by kernel_rfl) (fun _ _ => by kernel_rfl)
theorem noOwnUnsafe : Tryd.pinned.checked.prog.headLifts.contains "ownunsafe" = false := by kernel_rfl
theorem tie : Tryd.prog.laidByTextLater [("computus/julian.lengths", Rows.laid_computus_julian_lengths), ("computus/label.lengths", Rows.laid_computus_label_lengths), ("computus/label.spans", Rows.laid_computus_label_spans)] [.data, .widerDeep, .data] true :=
  Program.laidByTextLater.sub seatTie1 ["computus/julian.lengths", "computus/label.lengths", "computus/label.spans"] (by kernel_rfl) (by kernel_rfl)
theorem paschalMatchesReference_row_tie : Rows.paschalMatchesReferenceRow.laidByTextAt .later Tryd.pinned [.data, .widerDeep, .data] true :=
  OpenClaim.laidByTextAt_later rfl rfl tie noOwnUnsafe
theorem paschalIsTabular_row_tie : Rows.paschalIsTabularRow.laidByTextAt .later Tryd.pinned [.data, .widerDeep, .data] true :=
  OpenClaim.laidByTextAt_later rfl rfl tie noOwnUnsafe
theorem paschalTables_row_tie : Rows.paschalTablesRow.laidByTextAt .later Tryd.pinned [.data, .widerDeep, .data] true :=
  OpenClaim.laidByTextAt_later rfl rfl tie noOwnUnsafe
theorem paschalJulian_row_tie : Rows.paschalJulianRow.laidByTextAt .later Tryd.pinned [.data, .widerDeep, .data] true :=
  OpenClaim.laidByTextAt_later rfl rfl tie noOwnUnsafe
theorem paschalMonths_row_tie : Rows.paschalMonthsRow.laidByTextAt .later Tryd.pinned [.data, .widerDeep, .data] true :=
  OpenClaim.laidByTextAt_later rfl rfl tie noOwnUnsafe
theorem easterMatchesReference_row_tie : Rows.easterMatchesReferenceRow.laidByTextAt .later Tryd.pinned [.data, .widerDeep, .data] true :=
  OpenClaim.laidByTextAt_later rfl rfl tie noOwnUnsafe
theorem easterIsSunday_row_tie : Rows.easterIsSundayRow.laidByTextAt .later Tryd.pinned [.data, .widerDeep, .data] true :=
  OpenClaim.laidByTextAt_later rfl rfl tie noOwnUnsafe
theorem easterOffsets_row_tie : Rows.easterOffsetsRow.laidByTextAt .later Tryd.pinned [.data, .widerDeep, .data] true :=
  OpenClaim.laidByTextAt_later rfl rfl tie noOwnUnsafe
theorem easterNextYear_row_tie : Rows.easterNextYearRow.laidByTextAt .later Tryd.pinned [.data, .widerDeep, .data] true :=
  OpenClaim.laidByTextAt_later rfl rfl tie noOwnUnsafe
theorem gaussAgrees_row_tie : Rows.gaussAgreesRow.laidByTextAt .later Tryd.pinned [.data, .widerDeep, .data] true :=
  OpenClaim.laidByTextAt_later rfl rfl tie noOwnUnsafe
theorem orthodoxMatchesReference_row_tie : Rows.orthodoxMatchesReferenceRow.laidByTextAt .later Tryd.pinned [.data, .widerDeep, .data] true :=
  OpenClaim.laidByTextAt_later rfl rfl tie noOwnUnsafe
theorem orthodoxIsSameDay_row_tie : Rows.orthodoxIsSameDayRow.laidByTextAt .later Tryd.pinned [.data, .widerDeep, .data] true :=
  OpenClaim.laidByTextAt_later rfl rfl tie noOwnUnsafe
theorem orthodoxGap_row_tie : Rows.orthodoxGapRow.laidByTextAt .later Tryd.pinned [.data, .widerDeep, .data] true :=
  OpenClaim.laidByTextAt_later rfl rfl tie noOwnUnsafe
theorem orthodoxDelay_row_tie : Rows.orthodoxDelayRow.laidByTextAt .later Tryd.pinned [.data, .widerDeep, .data] true :=
  OpenClaim.laidByTextAt_later rfl rfl tie noOwnUnsafe
theorem orthodoxCentury_row_tie : Rows.orthodoxCenturyRow.laidByTextAt .later Tryd.pinned [.data, .widerDeep, .data] true :=
  OpenClaim.laidByTextAt_later rfl rfl tie noOwnUnsafe
theorem butcherAgrees_row_tie : Rows.butcherAgreesRow.laidByTextAt .later Tryd.pinned [.data, .widerDeep, .data] true :=
  OpenClaim.laidByTextAt_later rfl rfl tie noOwnUnsafe
theorem paschalMatchesReferenceUpto_row_tie : Rows.paschalMatchesReferenceUptoRow.laidByTextAt .later Tryd.pinned [.data, .widerDeep, .data] true :=
  OpenClaim.laidByTextAt_later rfl rfl tie noOwnUnsafe
theorem paschalIsTabularUpto_row_tie : Rows.paschalIsTabularUptoRow.laidByTextAt .later Tryd.pinned [.data, .widerDeep, .data] true :=
  OpenClaim.laidByTextAt_later rfl rfl tie noOwnUnsafe
theorem paschalTablesUpto_row_tie : Rows.paschalTablesUptoRow.laidByTextAt .later Tryd.pinned [.data, .widerDeep, .data] true :=
  OpenClaim.laidByTextAt_later rfl rfl tie noOwnUnsafe
theorem paschalJulianUpto_row_tie : Rows.paschalJulianUptoRow.laidByTextAt .later Tryd.pinned [.data, .widerDeep, .data] true :=
  OpenClaim.laidByTextAt_later rfl rfl tie noOwnUnsafe
theorem paschalMonthsUpto_row_tie : Rows.paschalMonthsUptoRow.laidByTextAt .later Tryd.pinned [.data, .widerDeep, .data] true :=
  OpenClaim.laidByTextAt_later rfl rfl tie noOwnUnsafe
theorem easterMatchesReferenceUpto_row_tie : Rows.easterMatchesReferenceUptoRow.laidByTextAt .later Tryd.pinned [.data, .widerDeep, .data] true :=
  OpenClaim.laidByTextAt_later rfl rfl tie noOwnUnsafe
theorem easterIsSundayUpto_row_tie : Rows.easterIsSundayUptoRow.laidByTextAt .later Tryd.pinned [.data, .widerDeep, .data] true :=
  OpenClaim.laidByTextAt_later rfl rfl tie noOwnUnsafe
theorem easterOffsetsUpto_row_tie : Rows.easterOffsetsUptoRow.laidByTextAt .later Tryd.pinned [.data, .widerDeep, .data] true :=
  OpenClaim.laidByTextAt_later rfl rfl tie noOwnUnsafe
theorem easterNextYearUpto_row_tie : Rows.easterNextYearUptoRow.laidByTextAt .later Tryd.pinned [.data, .widerDeep, .data] true :=
  OpenClaim.laidByTextAt_later rfl rfl tie noOwnUnsafe
theorem gaussAgreesUpto_row_tie : Rows.gaussAgreesUptoRow.laidByTextAt .later Tryd.pinned [.data, .widerDeep, .data] true :=
  OpenClaim.laidByTextAt_later rfl rfl tie noOwnUnsafe
theorem orthodoxMatchesReferenceUpto_row_tie : Rows.orthodoxMatchesReferenceUptoRow.laidByTextAt .later Tryd.pinned [.data, .widerDeep, .data] true :=
  OpenClaim.laidByTextAt_later rfl rfl tie noOwnUnsafe
theorem orthodoxIsSameDayUpto_row_tie : Rows.orthodoxIsSameDayUptoRow.laidByTextAt .later Tryd.pinned [.data, .widerDeep, .data] true :=
  OpenClaim.laidByTextAt_later rfl rfl tie noOwnUnsafe
theorem orthodoxGapUpto_row_tie : Rows.orthodoxGapUptoRow.laidByTextAt .later Tryd.pinned [.data, .widerDeep, .data] true :=
  OpenClaim.laidByTextAt_later rfl rfl tie noOwnUnsafe
theorem orthodoxDelayUpto_row_tie : Rows.orthodoxDelayUptoRow.laidByTextAt .later Tryd.pinned [.data, .widerDeep, .data] true :=
  OpenClaim.laidByTextAt_later rfl rfl tie noOwnUnsafe
theorem orthodoxCenturyUpto_row_tie : Rows.orthodoxCenturyUptoRow.laidByTextAt .later Tryd.pinned [.data, .widerDeep, .data] true :=
  OpenClaim.laidByTextAt_later rfl rfl tie noOwnUnsafe
theorem butcherAgreesUpto_row_tie : Rows.butcherAgreesUptoRow.laidByTextAt .later Tryd.pinned [.data, .widerDeep, .data] true :=
  OpenClaim.laidByTextAt_later rfl rfl tie noOwnUnsafe
end Go.Proofs.YtliomdnglhjfaaaDoor

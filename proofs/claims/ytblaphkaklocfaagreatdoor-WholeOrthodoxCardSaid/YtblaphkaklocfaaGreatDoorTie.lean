/-
  DERIVED. GIVEN WITH THE SEED: THE PROGRAM's TIES (one call each: nine closed facts by the kernel) AND EACH ROW's TIE, after the 31st guide's Derived/Test/Toyas{Tie, Card}.lean. No idea stands in it: it is a product of the set-up. Laid BY PROGRAM, IN A SANDBOX (cutbox-door.mjs). By AI agents, Wed Nov 11 2026. No macro, syntax, notation, axiom, sorry.
-/
import Derived.Test.YtblaphkaklocfaaGreatDoorRows
import Derived.LaidByTextLater
import Derived.SevenTiedAt
import Derived.LaidSub
import Derived.LaidOnce
namespace Go.Proofs.YtblaphkaklocfaaGreatDoor
open Go
set_option maxRecDepth 100000
theorem seatTie1 : Tryz.prog.laidByTextLater [("math/bits.deBruijn32tab", Rows.laid_math_bits_deBruijn32tab), ("math/bits.deBruijn64tab", Rows.laid_math_bits_deBruijn64tab), ("internal/strconv.uint64pow10", Rows.laid_internal_strconv_uint64pow10), ("computus/julian.lengths", Rows.laid_computus_julian_lengths), ("computus/weekday.names", Rows.laid_computus_weekday_names), ("computus/label.lengths", Rows.laid_computus_label_lengths), ("computus/label.spans", Rows.laid_computus_label_spans), ("computus/cattext.policies", Rows.laid_computus_cattext_policies), ("computus/ordotext.kinds", Rows.laid_computus_ordotext_kinds)] [.data, .data, .data, .data, .data, .widerDeep, .data, .widerDeep, .widerDeep] true :=
  Program.laidByTextLater_by_one 54 8 65 (by kernel_rfl) (by kernel_rfl) (by kernel_rfl) (by kernel_rfl) (by kernel_rfl) (by kernel_rfl) (fun _ _ => by kernel_rfl)
theorem noOwnUnsafe : Tryz.pinned.checked.prog.headLifts.contains "ownunsafe" = false := by kernel_rfl
theorem tie : Tryz.prog.laidByTextLater [("math/bits.deBruijn32tab", Rows.laid_math_bits_deBruijn32tab), ("math/bits.deBruijn64tab", Rows.laid_math_bits_deBruijn64tab), ("internal/strconv.uint64pow10", Rows.laid_internal_strconv_uint64pow10), ("computus/julian.lengths", Rows.laid_computus_julian_lengths), ("computus/weekday.names", Rows.laid_computus_weekday_names), ("computus/label.lengths", Rows.laid_computus_label_lengths), ("computus/label.spans", Rows.laid_computus_label_spans), ("computus/cattext.policies", Rows.laid_computus_cattext_policies), ("computus/ordotext.kinds", Rows.laid_computus_ordotext_kinds)] [.data, .data, .data, .data, .data, .widerDeep, .data, .widerDeep, .widerDeep] true :=
  Program.laidByTextLater.sub seatTie1 ["math/bits.deBruijn32tab", "math/bits.deBruijn64tab", "internal/strconv.uint64pow10", "computus/julian.lengths", "computus/weekday.names", "computus/label.lengths", "computus/label.spans", "computus/cattext.policies", "computus/ordotext.kinds"] (by kernel_rfl) (by kernel_rfl)
theorem wholeMethods_row_tie : Rows.wholeMethodsRow.laidByTextAt .later Tryz.pinned [.data, .data, .data, .data, .data, .widerDeep, .data, .widerDeep, .widerDeep] true :=
  OpenClaim.laidByTextAt_later rfl rfl tie noOwnUnsafe
theorem wholeOrthodox_row_tie : Rows.wholeOrthodoxRow.laidByTextAt .later Tryz.pinned [.data, .data, .data, .data, .data, .widerDeep, .data, .widerDeep, .widerDeep] true :=
  OpenClaim.laidByTextAt_later rfl rfl tie noOwnUnsafe
theorem wholeEntries_row_tie : Rows.wholeEntriesRow.laidByTextAt .later Tryz.pinned [.data, .data, .data, .data, .data, .widerDeep, .data, .widerDeep, .widerDeep] true :=
  OpenClaim.laidByTextAt_later rfl rfl tie noOwnUnsafe
theorem wholeCalendar_row_tie : Rows.wholeCalendarRow.laidByTextAt .later Tryz.pinned [.data, .data, .data, .data, .data, .widerDeep, .data, .widerDeep, .widerDeep] true :=
  OpenClaim.laidByTextAt_later rfl rfl tie noOwnUnsafe
theorem wholeBuiltin_row_tie : Rows.wholeBuiltinRow.laidByTextAt .later Tryz.pinned [.data, .data, .data, .data, .data, .widerDeep, .data, .widerDeep, .widerDeep] true :=
  OpenClaim.laidByTextAt_later rfl rfl tie noOwnUnsafe
theorem wholeMethodsUpto_row_tie : Rows.wholeMethodsUptoRow.laidByTextAt .later Tryz.pinned [.data, .data, .data, .data, .data, .widerDeep, .data, .widerDeep, .widerDeep] true :=
  OpenClaim.laidByTextAt_later rfl rfl tie noOwnUnsafe
theorem wholeOrthodoxUpto_row_tie : Rows.wholeOrthodoxUptoRow.laidByTextAt .later Tryz.pinned [.data, .data, .data, .data, .data, .widerDeep, .data, .widerDeep, .widerDeep] true :=
  OpenClaim.laidByTextAt_later rfl rfl tie noOwnUnsafe
theorem wholeEntriesUpto_row_tie : Rows.wholeEntriesUptoRow.laidByTextAt .later Tryz.pinned [.data, .data, .data, .data, .data, .widerDeep, .data, .widerDeep, .widerDeep] true :=
  OpenClaim.laidByTextAt_later rfl rfl tie noOwnUnsafe
theorem wholeCalendarUpto_row_tie : Rows.wholeCalendarUptoRow.laidByTextAt .later Tryz.pinned [.data, .data, .data, .data, .data, .widerDeep, .data, .widerDeep, .widerDeep] true :=
  OpenClaim.laidByTextAt_later rfl rfl tie noOwnUnsafe
theorem wholeBuiltinUpto_row_tie : Rows.wholeBuiltinUptoRow.laidByTextAt .later Tryz.pinned [.data, .data, .data, .data, .data, .widerDeep, .data, .widerDeep, .widerDeep] true :=
  OpenClaim.laidByTextAt_later rfl rfl tie noOwnUnsafe
end Go.Proofs.YtblaphkaklocfaaGreatDoor

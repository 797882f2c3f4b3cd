/-
  DERIVED. GIVEN WITH THE SEED: THE PROGRAM's TIES (one call each: nine closed facts by the kernel) AND EACH ROW's TIE, after the 31st guide's Derived/Test/Toyas{Tie, Card}.lean. No idea stands in it: it is a product of the set-up. Laid BY PROGRAM, IN A SANDBOX (cutbox-door.mjs). By AI agents, Wed Nov 11 2026. No macro, syntax, notation, axiom, sorry.
-/
import Derived.Test.YtdmgnanpjkimlaaDoorRows
import Derived.LaidByTextLater
import Derived.SevenTiedAt
import Derived.LaidSub
import Derived.LaidOnce
namespace Go.Proofs.YtdmgnanpjkimlaaDoor
open Go
set_option maxRecDepth 100000
theorem seatTie1 : Tryd.prog.laidByTextLater [("computus/julian.lengths", Rows.laid_computus_julian_lengths), ("computus/label.lengths", Rows.laid_computus_label_lengths), ("computus/label.spans", Rows.laid_computus_label_spans)] [.data, .widerDeep, .data] true :=
  Program.laidByTextLater_by_one 24 8 13 (by kernel_rfl) (by kernel_rfl) (by kernel_rfl) (by kernel_rfl) (by kernel_rfl) (by kernel_rfl) (fun _ _ => by kernel_rfl)
theorem noOwnUnsafe : Tryd.pinned.checked.prog.headLifts.contains "ownunsafe" = false := by kernel_rfl
theorem tie : Tryd.prog.laidByTextLater [("computus/julian.lengths", Rows.laid_computus_julian_lengths), ("computus/label.lengths", Rows.laid_computus_label_lengths), ("computus/label.spans", Rows.laid_computus_label_spans)] [.data, .widerDeep, .data] true :=
  Program.laidByTextLater.sub seatTie1 ["computus/julian.lengths", "computus/label.lengths", "computus/label.spans"] (by kernel_rfl) (by kernel_rfl)
theorem paschalMatchesReference_row_tie : Rows.paschalMatchesReferenceRow.laidByTextAt .later Tryd.pinned [.data, .widerDeep, .data] true :=
  OpenClaim.laidByTextAt_later rfl rfl tie noOwnUnsafe
theorem paschalMatchesReferenceUpto_row_tie : Rows.paschalMatchesReferenceUptoRow.laidByTextAt .later Tryd.pinned [.data, .widerDeep, .data] true :=
  OpenClaim.laidByTextAt_later rfl rfl tie noOwnUnsafe
end Go.Proofs.YtdmgnanpjkimlaaDoor

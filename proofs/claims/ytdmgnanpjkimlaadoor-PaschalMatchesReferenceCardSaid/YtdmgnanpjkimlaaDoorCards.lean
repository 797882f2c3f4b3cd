/-
  DERIVED. GIVEN WITH THE SEED: THE CARDS: each row of YtdmgnanpjkimlaaDoorRows.lean that lists a variable, with what it lists TIED to the program's text (the seventh form; the later family's looks); each row that meets fmt, with fmt's text TOLD by the authors' own Lean function (tested against real Go, not proved from fmt's source: count such statements apart). THE CARD IS WHAT COUNTS. Prove the row's statement (the work); the ties are given (YtdmgnanpjkimlaaDoorTie.lean); close each card by the builder's one call (the guide's Derived/Test/ToyasCard.lean, 'card_holds'). Laid BY PROGRAM, IN A SANDBOX (cutbox-door.mjs). By AI agents, Wed Nov 11 2026. No macro, syntax, notation, axiom, sorry.
-/
import Derived.Test.YtdmgnanpjkimlaaDoorRows
import GoSem.ClaimSeven
namespace Go.Proofs.YtdmgnanpjkimlaaDoor
namespace Rows

/-- THE TIED CARD OF 'computuslaw09.PaschalMatchesReference'. -/
def paschalMatchesReferenceCard : Claim7 := { stood := { row := paschalMatchesReferenceRow, standIns := [], harness := (true, "78ef25742b7f88e2597522922d1b0a982fc646103f542500324e07b01271b9b0"), looks := false }, kinds := [], alts := [], laidByText := true, laidKinds := [.data, .widerDeep, .data], laidTests := true, laidLooks := .later }
def PaschalMatchesReferenceCardSaid : Prop := Claim7.holds Tryd.pinned (.plain (OpenSpec.ofChange paschalMatchesReferenceSpec)) paschalMatchesReferenceCard

/-- THE SECOND FORM's CARD OF 'computuslaw09.PaschalMatchesReference'. -/
def paschalMatchesReferenceUptoCard : Claim7 := { stood := { row := paschalMatchesReferenceUptoRow, standIns := [], harness := (true, "78ef25742b7f88e2597522922d1b0a982fc646103f542500324e07b01271b9b0"), looks := false }, kinds := [], alts := [], laidByText := true, laidKinds := [.data, .widerDeep, .data], laidTests := true, laidLooks := .later }
def PaschalMatchesReferenceUptoCardSaid : Prop := Claim7.holds Tryd.pinned (.plain (OpenSpec.upto paschalMatchesReferenceSpec)) paschalMatchesReferenceUptoCard
end Rows
end Go.Proofs.YtdmgnanpjkimlaaDoor

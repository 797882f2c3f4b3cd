/-
  DERIVED. GIVEN WITH THE SEED: THE CARDS: each row of YtennmbcimbgleaaDoorRows.lean that lists a variable, with what it lists TIED to the program's text (the seventh form; the later family's looks); each row that meets fmt, with fmt's text TOLD by the authors' own Lean function (tested against real Go, not proved from fmt's source: count such statements apart). THE CARD IS WHAT COUNTS. Prove the row's statement (the work); the ties are given (YtennmbcimbgleaaDoorTie.lean); close each card by the builder's one call (the guide's Derived/Test/ToyasCard.lean, 'card_holds'). Laid BY PROGRAM, IN A SANDBOX (cutbox-door.mjs). By AI agents, Wed Nov 11 2026. No macro, syntax, notation, axiom, sorry.
-/
import Derived.Test.YtennmbcimbgleaaDoorRows
import GoSem.ClaimSeven
namespace Go.Proofs.YtennmbcimbgleaaDoor
namespace Rows

/-- THE TIED CARD OF 'computuslaw08.LabelMatchesReference'. -/
def labelMatchesReferenceCard : Claim7 := { stood := { row := labelMatchesReferenceRow, standIns := [], harness := (true, "f6ffa58ec8ad8553dd60e95785ec31bbba28e412efade22a3295923f5fa1b12a"), looks := false }, kinds := [], alts := [], laidByText := true, laidKinds := [.widerDeep, .data], laidTests := true, laidLooks := .later }
def LabelMatchesReferenceCardSaid : Prop := Claim7.holds Tryd.pinned (.plain (OpenSpec.ofChange labelMatchesReferenceSpec)) labelMatchesReferenceCard

/-- THE TIED CARD OF 'computuslaw08.LabelDays'. -/
def labelDaysCard : Claim7 := { stood := { row := labelDaysRow, standIns := [], harness := (true, "f6ffa58ec8ad8553dd60e95785ec31bbba28e412efade22a3295923f5fa1b12a"), looks := false }, kinds := [], alts := [], laidByText := true, laidKinds := [.widerDeep, .data], laidTests := true, laidLooks := .later }
def LabelDaysCardSaid : Prop := Claim7.holds Tryd.pinned (.plain (OpenSpec.ofChange labelDaysSpec)) labelDaysCard

/-- THE TIED CARD OF 'computuslaw08.LabelLunations'. -/
def labelLunationsCard : Claim7 := { stood := { row := labelLunationsRow, standIns := [], harness := (true, "f6ffa58ec8ad8553dd60e95785ec31bbba28e412efade22a3295923f5fa1b12a"), looks := false }, kinds := [], alts := [], laidByText := true, laidKinds := [.widerDeep, .data], laidTests := true, laidLooks := .later }
def LabelLunationsCardSaid : Prop := Claim7.holds Tryd.pinned (.plain (OpenSpec.ofChange labelLunationsSpec)) labelLunationsCard

/-- THE TIED CARD OF 'computuslaw08.LabelEvery'. -/
def labelEveryCard : Claim7 := { stood := { row := labelEveryRow, standIns := [], harness := (true, "f6ffa58ec8ad8553dd60e95785ec31bbba28e412efade22a3295923f5fa1b12a"), looks := false }, kinds := [], alts := [], laidByText := true, laidKinds := [.widerDeep, .data], laidTests := true, laidLooks := .later }
def LabelEveryCardSaid : Prop := Claim7.holds Tryd.pinned (.plain (OpenSpec.ofChange labelEverySpec)) labelEveryCard

/-- THE TIED CARD OF 'computuslaw08.LabelPaschal'. -/
def labelPaschalCard : Claim7 := { stood := { row := labelPaschalRow, standIns := [], harness := (true, "f6ffa58ec8ad8553dd60e95785ec31bbba28e412efade22a3295923f5fa1b12a"), looks := false }, kinds := [], alts := [], laidByText := true, laidKinds := [.widerDeep, .data], laidTests := true, laidLooks := .later }
def LabelPaschalCardSaid : Prop := Claim7.holds Tryd.pinned (.plain (OpenSpec.ofChange labelPaschalSpec)) labelPaschalCard

/-- THE SECOND FORM's CARD OF 'computuslaw08.LabelMatchesReference'. -/
def labelMatchesReferenceUptoCard : Claim7 := { stood := { row := labelMatchesReferenceUptoRow, standIns := [], harness := (true, "f6ffa58ec8ad8553dd60e95785ec31bbba28e412efade22a3295923f5fa1b12a"), looks := false }, kinds := [], alts := [], laidByText := true, laidKinds := [.widerDeep, .data], laidTests := true, laidLooks := .later }
def LabelMatchesReferenceUptoCardSaid : Prop := Claim7.holds Tryd.pinned (.plain (OpenSpec.upto labelMatchesReferenceSpec)) labelMatchesReferenceUptoCard

/-- THE SECOND FORM's CARD OF 'computuslaw08.LabelDays'. -/
def labelDaysUptoCard : Claim7 := { stood := { row := labelDaysUptoRow, standIns := [], harness := (true, "f6ffa58ec8ad8553dd60e95785ec31bbba28e412efade22a3295923f5fa1b12a"), looks := false }, kinds := [], alts := [], laidByText := true, laidKinds := [.widerDeep, .data], laidTests := true, laidLooks := .later }
def LabelDaysUptoCardSaid : Prop := Claim7.holds Tryd.pinned (.plain (OpenSpec.upto labelDaysSpec)) labelDaysUptoCard

/-- THE SECOND FORM's CARD OF 'computuslaw08.LabelLunations'. -/
def labelLunationsUptoCard : Claim7 := { stood := { row := labelLunationsUptoRow, standIns := [], harness := (true, "f6ffa58ec8ad8553dd60e95785ec31bbba28e412efade22a3295923f5fa1b12a"), looks := false }, kinds := [], alts := [], laidByText := true, laidKinds := [.widerDeep, .data], laidTests := true, laidLooks := .later }
def LabelLunationsUptoCardSaid : Prop := Claim7.holds Tryd.pinned (.plain (OpenSpec.upto labelLunationsSpec)) labelLunationsUptoCard

/-- THE SECOND FORM's CARD OF 'computuslaw08.LabelEvery'. -/
def labelEveryUptoCard : Claim7 := { stood := { row := labelEveryUptoRow, standIns := [], harness := (true, "f6ffa58ec8ad8553dd60e95785ec31bbba28e412efade22a3295923f5fa1b12a"), looks := false }, kinds := [], alts := [], laidByText := true, laidKinds := [.widerDeep, .data], laidTests := true, laidLooks := .later }
def LabelEveryUptoCardSaid : Prop := Claim7.holds Tryd.pinned (.plain (OpenSpec.upto labelEverySpec)) labelEveryUptoCard

/-- THE SECOND FORM's CARD OF 'computuslaw08.LabelPaschal'. -/
def labelPaschalUptoCard : Claim7 := { stood := { row := labelPaschalUptoRow, standIns := [], harness := (true, "f6ffa58ec8ad8553dd60e95785ec31bbba28e412efade22a3295923f5fa1b12a"), looks := false }, kinds := [], alts := [], laidByText := true, laidKinds := [.widerDeep, .data], laidTests := true, laidLooks := .later }
def LabelPaschalUptoCardSaid : Prop := Claim7.holds Tryd.pinned (.plain (OpenSpec.upto labelPaschalSpec)) labelPaschalUptoCard
end Rows
end Go.Proofs.YtennmbcimbgleaaDoor

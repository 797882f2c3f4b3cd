/-
  DERIVED. GIVEN WITH THE SEED: THE CARDS: each row of YtcfgiboknkkheaaDoorRows.lean that lists a variable, with what it lists TIED to the program's text (the seventh form; the later family's looks); each row that meets fmt, with fmt's text TOLD by the authors' own Lean function (tested against real Go, not proved from fmt's source: count such statements apart). THE CARD IS WHAT COUNTS. Prove the row's statement (the work); the ties are given (YtcfgiboknkkheaaDoorTie.lean); close each card by the builder's one call (the guide's Derived/Test/ToyasCard.lean, 'card_holds'). Laid BY PROGRAM, IN A SANDBOX (cutbox-door.mjs). By AI agents, Wed Nov 11 2026. No macro, syntax, notation, axiom, sorry.
-/
import Derived.Test.YtcfgiboknkkheaaDoorRows
import GoSem.ClaimSeven
namespace Go.Proofs.YtcfgiboknkkheaaDoor
namespace Rows

/-- THE TIED CARD OF 'computuslaw05.CivilYears'. -/
def civilYearsCard : Claim7 := { stood := { row := civilYearsRow, standIns := [], harness := (true, "c0e753a7dac34ca811eb2c798964b19a13c37bf5d582106b1d35090e2982fd3f"), looks := false }, kinds := [], alts := [], laidByText := true, laidKinds := [.data], laidTests := true, laidLooks := .later }
def CivilYearsCardSaid : Prop := Claim7.holds Tryd.pinned (.plain (OpenSpec.ofChange civilYearsSpec)) civilYearsCard

/-- THE TIED CARD OF 'computuslaw05.CivilOrder'. -/
def civilOrderCard : Claim7 := { stood := { row := civilOrderRow, standIns := [], harness := (true, "c0e753a7dac34ca811eb2c798964b19a13c37bf5d582106b1d35090e2982fd3f"), looks := false }, kinds := [], alts := [], laidByText := true, laidKinds := [.data], laidTests := true, laidLooks := .later }
def CivilOrderCardSaid : Prop := Claim7.holds Tryd.pinned (.plain (OpenSpec.ofChange civilOrderSpec)) civilOrderCard

/-- THE TIED CARD OF 'computuslaw05.CivilShift'. -/
def civilShiftCard : Claim7 := { stood := { row := civilShiftRow, standIns := [], harness := (true, "c0e753a7dac34ca811eb2c798964b19a13c37bf5d582106b1d35090e2982fd3f"), looks := false }, kinds := [], alts := [], laidByText := true, laidKinds := [.data], laidTests := true, laidLooks := .later }
def CivilShiftCardSaid : Prop := Claim7.holds Tryd.pinned (.plain (OpenSpec.ofChange civilShiftSpec)) civilShiftCard

/-- THE TIED CARD OF 'computuslaw06.GoldenCycle'. -/
def goldenCycleCard : Claim7 := { stood := { row := goldenCycleRow, standIns := [], harness := (true, "c0e753a7dac34ca811eb2c798964b19a13c37bf5d582106b1d35090e2982fd3f"), looks := false }, kinds := [], alts := [], laidByText := true, laidKinds := [.data], laidTests := true, laidLooks := .later }
def GoldenCycleCardSaid : Prop := Claim7.holds Tryd.pinned (.plain (OpenSpec.ofChange goldenCycleSpec)) goldenCycleCard

/-- THE TIED CARD OF 'computuslaw06.GoldenCorrections'. -/
def goldenCorrectionsCard : Claim7 := { stood := { row := goldenCorrectionsRow, standIns := [], harness := (true, "c0e753a7dac34ca811eb2c798964b19a13c37bf5d582106b1d35090e2982fd3f"), looks := false }, kinds := [], alts := [], laidByText := true, laidKinds := [.data], laidTests := true, laidLooks := .later }
def GoldenCorrectionsCardSaid : Prop := Claim7.holds Tryd.pinned (.plain (OpenSpec.ofChange goldenCorrectionsSpec)) goldenCorrectionsCard

/-- THE TIED CARD OF 'computuslaw06.GoldenLetters'. -/
def goldenLettersCard : Claim7 := { stood := { row := goldenLettersRow, standIns := [], harness := (true, "c0e753a7dac34ca811eb2c798964b19a13c37bf5d582106b1d35090e2982fd3f"), looks := false }, kinds := [], alts := [], laidByText := true, laidKinds := [.data], laidTests := true, laidLooks := .later }
def GoldenLettersCardSaid : Prop := Claim7.holds Tryd.pinned (.plain (OpenSpec.ofChange goldenLettersSpec)) goldenLettersCard

/-- THE TIED CARD OF 'computuslaw06.GoldenRepeats'. -/
def goldenRepeatsCard : Claim7 := { stood := { row := goldenRepeatsRow, standIns := [], harness := (true, "c0e753a7dac34ca811eb2c798964b19a13c37bf5d582106b1d35090e2982fd3f"), looks := false }, kinds := [], alts := [], laidByText := true, laidKinds := [.data], laidTests := true, laidLooks := .later }
def GoldenRepeatsCardSaid : Prop := Claim7.holds Tryd.pinned (.plain (OpenSpec.ofChange goldenRepeatsSpec)) goldenRepeatsCard

/-- THE TIED CARD OF 'computuslaw05.CivilConvert'. -/
def civilConvertCard : Claim7 := { stood := { row := civilConvertRow, standIns := [], harness := (true, "c0e753a7dac34ca811eb2c798964b19a13c37bf5d582106b1d35090e2982fd3f"), looks := false }, kinds := [], alts := [], laidByText := true, laidKinds := [.data], laidTests := true, laidLooks := .later }
def CivilConvertCardSaid : Prop := Claim7.holds Tryd.pinned (.plain (OpenSpec.ofChange civilConvertSpec)) civilConvertCard

/-- THE TIED CARD OF 'computuslaw06.GoldenMatchesReference'. -/
def goldenMatchesReferenceCard : Claim7 := { stood := { row := goldenMatchesReferenceRow, standIns := [], harness := (true, "c0e753a7dac34ca811eb2c798964b19a13c37bf5d582106b1d35090e2982fd3f"), looks := false }, kinds := [], alts := [], laidByText := true, laidKinds := [.data], laidTests := true, laidLooks := .later }
def GoldenMatchesReferenceCardSaid : Prop := Claim7.holds Tryd.pinned (.plain (OpenSpec.ofChange goldenMatchesReferenceSpec)) goldenMatchesReferenceCard

/-- THE TIED CARD OF 'computuslaw05.CivilMatchesReference'. -/
def civilMatchesReferenceCard : Claim7 := { stood := { row := civilMatchesReferenceRow, standIns := [], harness := (true, "c0e753a7dac34ca811eb2c798964b19a13c37bf5d582106b1d35090e2982fd3f"), looks := false }, kinds := [], alts := [], laidByText := true, laidKinds := [.data], laidTests := true, laidLooks := .later }
def CivilMatchesReferenceCardSaid : Prop := Claim7.holds Tryd.pinned (.plain (OpenSpec.ofChange civilMatchesReferenceSpec)) civilMatchesReferenceCard

/-- THE SECOND FORM's CARD OF 'computuslaw05.CivilYears'. -/
def civilYearsUptoCard : Claim7 := { stood := { row := civilYearsUptoRow, standIns := [], harness := (true, "c0e753a7dac34ca811eb2c798964b19a13c37bf5d582106b1d35090e2982fd3f"), looks := false }, kinds := [], alts := [], laidByText := true, laidKinds := [.data], laidTests := true, laidLooks := .later }
def CivilYearsUptoCardSaid : Prop := Claim7.holds Tryd.pinned (.plain (OpenSpec.upto civilYearsSpec)) civilYearsUptoCard

/-- THE SECOND FORM's CARD OF 'computuslaw05.CivilOrder'. -/
def civilOrderUptoCard : Claim7 := { stood := { row := civilOrderUptoRow, standIns := [], harness := (true, "c0e753a7dac34ca811eb2c798964b19a13c37bf5d582106b1d35090e2982fd3f"), looks := false }, kinds := [], alts := [], laidByText := true, laidKinds := [.data], laidTests := true, laidLooks := .later }
def CivilOrderUptoCardSaid : Prop := Claim7.holds Tryd.pinned (.plain (OpenSpec.upto civilOrderSpec)) civilOrderUptoCard

/-- THE SECOND FORM's CARD OF 'computuslaw05.CivilShift'. -/
def civilShiftUptoCard : Claim7 := { stood := { row := civilShiftUptoRow, standIns := [], harness := (true, "c0e753a7dac34ca811eb2c798964b19a13c37bf5d582106b1d35090e2982fd3f"), looks := false }, kinds := [], alts := [], laidByText := true, laidKinds := [.data], laidTests := true, laidLooks := .later }
def CivilShiftUptoCardSaid : Prop := Claim7.holds Tryd.pinned (.plain (OpenSpec.upto civilShiftSpec)) civilShiftUptoCard

/-- THE SECOND FORM's CARD OF 'computuslaw06.GoldenCycle'. -/
def goldenCycleUptoCard : Claim7 := { stood := { row := goldenCycleUptoRow, standIns := [], harness := (true, "c0e753a7dac34ca811eb2c798964b19a13c37bf5d582106b1d35090e2982fd3f"), looks := false }, kinds := [], alts := [], laidByText := true, laidKinds := [.data], laidTests := true, laidLooks := .later }
def GoldenCycleUptoCardSaid : Prop := Claim7.holds Tryd.pinned (.plain (OpenSpec.upto goldenCycleSpec)) goldenCycleUptoCard

/-- THE SECOND FORM's CARD OF 'computuslaw06.GoldenCorrections'. -/
def goldenCorrectionsUptoCard : Claim7 := { stood := { row := goldenCorrectionsUptoRow, standIns := [], harness := (true, "c0e753a7dac34ca811eb2c798964b19a13c37bf5d582106b1d35090e2982fd3f"), looks := false }, kinds := [], alts := [], laidByText := true, laidKinds := [.data], laidTests := true, laidLooks := .later }
def GoldenCorrectionsUptoCardSaid : Prop := Claim7.holds Tryd.pinned (.plain (OpenSpec.upto goldenCorrectionsSpec)) goldenCorrectionsUptoCard

/-- THE SECOND FORM's CARD OF 'computuslaw06.GoldenLetters'. -/
def goldenLettersUptoCard : Claim7 := { stood := { row := goldenLettersUptoRow, standIns := [], harness := (true, "c0e753a7dac34ca811eb2c798964b19a13c37bf5d582106b1d35090e2982fd3f"), looks := false }, kinds := [], alts := [], laidByText := true, laidKinds := [.data], laidTests := true, laidLooks := .later }
def GoldenLettersUptoCardSaid : Prop := Claim7.holds Tryd.pinned (.plain (OpenSpec.upto goldenLettersSpec)) goldenLettersUptoCard

/-- THE SECOND FORM's CARD OF 'computuslaw06.GoldenRepeats'. -/
def goldenRepeatsUptoCard : Claim7 := { stood := { row := goldenRepeatsUptoRow, standIns := [], harness := (true, "c0e753a7dac34ca811eb2c798964b19a13c37bf5d582106b1d35090e2982fd3f"), looks := false }, kinds := [], alts := [], laidByText := true, laidKinds := [.data], laidTests := true, laidLooks := .later }
def GoldenRepeatsUptoCardSaid : Prop := Claim7.holds Tryd.pinned (.plain (OpenSpec.upto goldenRepeatsSpec)) goldenRepeatsUptoCard

/-- THE SECOND FORM's CARD OF 'computuslaw05.CivilConvert'. -/
def civilConvertUptoCard : Claim7 := { stood := { row := civilConvertUptoRow, standIns := [], harness := (true, "c0e753a7dac34ca811eb2c798964b19a13c37bf5d582106b1d35090e2982fd3f"), looks := false }, kinds := [], alts := [], laidByText := true, laidKinds := [.data], laidTests := true, laidLooks := .later }
def CivilConvertUptoCardSaid : Prop := Claim7.holds Tryd.pinned (.plain (OpenSpec.upto civilConvertSpec)) civilConvertUptoCard

/-- THE SECOND FORM's CARD OF 'computuslaw06.GoldenMatchesReference'. -/
def goldenMatchesReferenceUptoCard : Claim7 := { stood := { row := goldenMatchesReferenceUptoRow, standIns := [], harness := (true, "c0e753a7dac34ca811eb2c798964b19a13c37bf5d582106b1d35090e2982fd3f"), looks := false }, kinds := [], alts := [], laidByText := true, laidKinds := [.data], laidTests := true, laidLooks := .later }
def GoldenMatchesReferenceUptoCardSaid : Prop := Claim7.holds Tryd.pinned (.plain (OpenSpec.upto goldenMatchesReferenceSpec)) goldenMatchesReferenceUptoCard

/-- THE SECOND FORM's CARD OF 'computuslaw05.CivilMatchesReference'. -/
def civilMatchesReferenceUptoCard : Claim7 := { stood := { row := civilMatchesReferenceUptoRow, standIns := [], harness := (true, "c0e753a7dac34ca811eb2c798964b19a13c37bf5d582106b1d35090e2982fd3f"), looks := false }, kinds := [], alts := [], laidByText := true, laidKinds := [.data], laidTests := true, laidLooks := .later }
def CivilMatchesReferenceUptoCardSaid : Prop := Claim7.holds Tryd.pinned (.plain (OpenSpec.upto civilMatchesReferenceSpec)) civilMatchesReferenceUptoCard
end Rows
end Go.Proofs.YtcfgiboknkkheaaDoor

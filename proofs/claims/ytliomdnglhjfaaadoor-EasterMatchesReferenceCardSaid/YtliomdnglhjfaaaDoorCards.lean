/-
  DERIVED. GIVEN WITH THE SEED: THE CARDS: each row of YtliomdnglhjfaaaDoorRows.lean that lists a variable, with what it lists TIED to the program's text (the seventh form; the later family's looks); each row that meets fmt, with fmt's text TOLD by the authors' own Lean function (tested against real Go, not proved from fmt's source: count such statements apart). THE CARD IS WHAT COUNTS. Prove the row's statement (the work); the ties are given (YtliomdnglhjfaaaDoorTie.lean); close each card by the builder's one call (the guide's Derived/Test/ToyasCard.lean, 'card_holds'). Laid BY PROGRAM, IN A SANDBOX (cutbox-door.mjs). By AI agents, Wed Nov 11 2026. No macro, syntax, notation, axiom, sorry.
-/
import Derived.Test.YtliomdnglhjfaaaDoorRows
import GoSem.ClaimSeven
namespace Go.Proofs.YtliomdnglhjfaaaDoor
namespace Rows

/-- THE TIED CARD OF 'computuslaw09.PaschalMatchesReference'. -/
def paschalMatchesReferenceCard : Claim7 := { stood := { row := paschalMatchesReferenceRow, standIns := [], harness := (true, "2501afd71bcf0e7e676ec435ac078a657d3ccbbcb964ad165321fded9a5a3067"), looks := false }, kinds := [], alts := [], laidByText := true, laidKinds := [.data, .widerDeep, .data], laidTests := true, laidLooks := .later }
def PaschalMatchesReferenceCardSaid : Prop := Claim7.holds Tryd.pinned (.plain (OpenSpec.ofChange paschalMatchesReferenceSpec)) paschalMatchesReferenceCard

/-- THE TIED CARD OF 'computuslaw09.PaschalIsTabular'. -/
def paschalIsTabularCard : Claim7 := { stood := { row := paschalIsTabularRow, standIns := [], harness := (true, "2501afd71bcf0e7e676ec435ac078a657d3ccbbcb964ad165321fded9a5a3067"), looks := false }, kinds := [], alts := [], laidByText := true, laidKinds := [.data, .widerDeep, .data], laidTests := true, laidLooks := .later }
def PaschalIsTabularCardSaid : Prop := Claim7.holds Tryd.pinned (.plain (OpenSpec.ofChange paschalIsTabularSpec)) paschalIsTabularCard

/-- THE TIED CARD OF 'computuslaw09.PaschalTables'. -/
def paschalTablesCard : Claim7 := { stood := { row := paschalTablesRow, standIns := [], harness := (true, "2501afd71bcf0e7e676ec435ac078a657d3ccbbcb964ad165321fded9a5a3067"), looks := false }, kinds := [], alts := [], laidByText := true, laidKinds := [.data, .widerDeep, .data], laidTests := true, laidLooks := .later }
def PaschalTablesCardSaid : Prop := Claim7.holds Tryd.pinned (.plain (OpenSpec.ofChange paschalTablesSpec)) paschalTablesCard

/-- THE TIED CARD OF 'computuslaw09.PaschalJulian'. -/
def paschalJulianCard : Claim7 := { stood := { row := paschalJulianRow, standIns := [], harness := (true, "2501afd71bcf0e7e676ec435ac078a657d3ccbbcb964ad165321fded9a5a3067"), looks := false }, kinds := [], alts := [], laidByText := true, laidKinds := [.data, .widerDeep, .data], laidTests := true, laidLooks := .later }
def PaschalJulianCardSaid : Prop := Claim7.holds Tryd.pinned (.plain (OpenSpec.ofChange paschalJulianSpec)) paschalJulianCard

/-- THE TIED CARD OF 'computuslaw09.PaschalMonths'. -/
def paschalMonthsCard : Claim7 := { stood := { row := paschalMonthsRow, standIns := [], harness := (true, "2501afd71bcf0e7e676ec435ac078a657d3ccbbcb964ad165321fded9a5a3067"), looks := false }, kinds := [], alts := [], laidByText := true, laidKinds := [.data, .widerDeep, .data], laidTests := true, laidLooks := .later }
def PaschalMonthsCardSaid : Prop := Claim7.holds Tryd.pinned (.plain (OpenSpec.ofChange paschalMonthsSpec)) paschalMonthsCard

/-- THE TIED CARD OF 'computuslaw10.EasterMatchesReference'. -/
def easterMatchesReferenceCard : Claim7 := { stood := { row := easterMatchesReferenceRow, standIns := [], harness := (true, "2501afd71bcf0e7e676ec435ac078a657d3ccbbcb964ad165321fded9a5a3067"), looks := false }, kinds := [], alts := [], laidByText := true, laidKinds := [.data, .widerDeep, .data], laidTests := true, laidLooks := .later }
def EasterMatchesReferenceCardSaid : Prop := Claim7.holds Tryd.pinned (.plain (OpenSpec.ofChange easterMatchesReferenceSpec)) easterMatchesReferenceCard

/-- THE TIED CARD OF 'computuslaw10.EasterIsSunday'. -/
def easterIsSundayCard : Claim7 := { stood := { row := easterIsSundayRow, standIns := [], harness := (true, "2501afd71bcf0e7e676ec435ac078a657d3ccbbcb964ad165321fded9a5a3067"), looks := false }, kinds := [], alts := [], laidByText := true, laidKinds := [.data, .widerDeep, .data], laidTests := true, laidLooks := .later }
def EasterIsSundayCardSaid : Prop := Claim7.holds Tryd.pinned (.plain (OpenSpec.ofChange easterIsSundaySpec)) easterIsSundayCard

/-- THE TIED CARD OF 'computuslaw10.EasterOffsets'. -/
def easterOffsetsCard : Claim7 := { stood := { row := easterOffsetsRow, standIns := [], harness := (true, "2501afd71bcf0e7e676ec435ac078a657d3ccbbcb964ad165321fded9a5a3067"), looks := false }, kinds := [], alts := [], laidByText := true, laidKinds := [.data, .widerDeep, .data], laidTests := true, laidLooks := .later }
def EasterOffsetsCardSaid : Prop := Claim7.holds Tryd.pinned (.plain (OpenSpec.ofChange easterOffsetsSpec)) easterOffsetsCard

/-- THE TIED CARD OF 'computuslaw10.EasterNextYear'. -/
def easterNextYearCard : Claim7 := { stood := { row := easterNextYearRow, standIns := [], harness := (true, "2501afd71bcf0e7e676ec435ac078a657d3ccbbcb964ad165321fded9a5a3067"), looks := false }, kinds := [], alts := [], laidByText := true, laidKinds := [.data, .widerDeep, .data], laidTests := true, laidLooks := .later }
def EasterNextYearCardSaid : Prop := Claim7.holds Tryd.pinned (.plain (OpenSpec.ofChange easterNextYearSpec)) easterNextYearCard

/-- THE TIED CARD OF 'computuslaw11.GaussAgrees'. -/
def gaussAgreesCard : Claim7 := { stood := { row := gaussAgreesRow, standIns := [], harness := (true, "2501afd71bcf0e7e676ec435ac078a657d3ccbbcb964ad165321fded9a5a3067"), looks := false }, kinds := [], alts := [], laidByText := true, laidKinds := [.data, .widerDeep, .data], laidTests := true, laidLooks := .later }
def GaussAgreesCardSaid : Prop := Claim7.holds Tryd.pinned (.plain (OpenSpec.ofChange gaussAgreesSpec)) gaussAgreesCard

/-- THE TIED CARD OF 'computuslaw13.OrthodoxMatchesReference'. -/
def orthodoxMatchesReferenceCard : Claim7 := { stood := { row := orthodoxMatchesReferenceRow, standIns := [], harness := (true, "2501afd71bcf0e7e676ec435ac078a657d3ccbbcb964ad165321fded9a5a3067"), looks := false }, kinds := [], alts := [], laidByText := true, laidKinds := [.data, .widerDeep, .data], laidTests := true, laidLooks := .later }
def OrthodoxMatchesReferenceCardSaid : Prop := Claim7.holds Tryd.pinned (.plain (OpenSpec.ofChange orthodoxMatchesReferenceSpec)) orthodoxMatchesReferenceCard

/-- THE TIED CARD OF 'computuslaw13.OrthodoxIsSameDay'. -/
def orthodoxIsSameDayCard : Claim7 := { stood := { row := orthodoxIsSameDayRow, standIns := [], harness := (true, "2501afd71bcf0e7e676ec435ac078a657d3ccbbcb964ad165321fded9a5a3067"), looks := false }, kinds := [], alts := [], laidByText := true, laidKinds := [.data, .widerDeep, .data], laidTests := true, laidLooks := .later }
def OrthodoxIsSameDayCardSaid : Prop := Claim7.holds Tryd.pinned (.plain (OpenSpec.ofChange orthodoxIsSameDaySpec)) orthodoxIsSameDayCard

/-- THE TIED CARD OF 'computuslaw13.OrthodoxGap'. -/
def orthodoxGapCard : Claim7 := { stood := { row := orthodoxGapRow, standIns := [], harness := (true, "2501afd71bcf0e7e676ec435ac078a657d3ccbbcb964ad165321fded9a5a3067"), looks := false }, kinds := [], alts := [], laidByText := true, laidKinds := [.data, .widerDeep, .data], laidTests := true, laidLooks := .later }
def OrthodoxGapCardSaid : Prop := Claim7.holds Tryd.pinned (.plain (OpenSpec.ofChange orthodoxGapSpec)) orthodoxGapCard

/-- THE TIED CARD OF 'computuslaw13.OrthodoxDelay'. -/
def orthodoxDelayCard : Claim7 := { stood := { row := orthodoxDelayRow, standIns := [], harness := (true, "2501afd71bcf0e7e676ec435ac078a657d3ccbbcb964ad165321fded9a5a3067"), looks := false }, kinds := [], alts := [], laidByText := true, laidKinds := [.data, .widerDeep, .data], laidTests := true, laidLooks := .later }
def OrthodoxDelayCardSaid : Prop := Claim7.holds Tryd.pinned (.plain (OpenSpec.ofChange orthodoxDelaySpec)) orthodoxDelayCard

/-- THE TIED CARD OF 'computuslaw13.OrthodoxCentury'. -/
def orthodoxCenturyCard : Claim7 := { stood := { row := orthodoxCenturyRow, standIns := [], harness := (true, "2501afd71bcf0e7e676ec435ac078a657d3ccbbcb964ad165321fded9a5a3067"), looks := false }, kinds := [], alts := [], laidByText := true, laidKinds := [.data, .widerDeep, .data], laidTests := true, laidLooks := .later }
def OrthodoxCenturyCardSaid : Prop := Claim7.holds Tryd.pinned (.plain (OpenSpec.ofChange orthodoxCenturySpec)) orthodoxCenturyCard

/-- THE TIED CARD OF 'computuslaw12.ButcherAgrees'. -/
def butcherAgreesCard : Claim7 := { stood := { row := butcherAgreesRow, standIns := [], harness := (true, "2501afd71bcf0e7e676ec435ac078a657d3ccbbcb964ad165321fded9a5a3067"), looks := false }, kinds := [], alts := [], laidByText := true, laidKinds := [.data, .widerDeep, .data], laidTests := true, laidLooks := .later }
def ButcherAgreesCardSaid : Prop := Claim7.holds Tryd.pinned (.plain (OpenSpec.ofChange butcherAgreesSpec)) butcherAgreesCard

/-- THE SECOND FORM's CARD OF 'computuslaw09.PaschalMatchesReference'. -/
def paschalMatchesReferenceUptoCard : Claim7 := { stood := { row := paschalMatchesReferenceUptoRow, standIns := [], harness := (true, "2501afd71bcf0e7e676ec435ac078a657d3ccbbcb964ad165321fded9a5a3067"), looks := false }, kinds := [], alts := [], laidByText := true, laidKinds := [.data, .widerDeep, .data], laidTests := true, laidLooks := .later }
def PaschalMatchesReferenceUptoCardSaid : Prop := Claim7.holds Tryd.pinned (.plain (OpenSpec.upto paschalMatchesReferenceSpec)) paschalMatchesReferenceUptoCard

/-- THE SECOND FORM's CARD OF 'computuslaw09.PaschalIsTabular'. -/
def paschalIsTabularUptoCard : Claim7 := { stood := { row := paschalIsTabularUptoRow, standIns := [], harness := (true, "2501afd71bcf0e7e676ec435ac078a657d3ccbbcb964ad165321fded9a5a3067"), looks := false }, kinds := [], alts := [], laidByText := true, laidKinds := [.data, .widerDeep, .data], laidTests := true, laidLooks := .later }
def PaschalIsTabularUptoCardSaid : Prop := Claim7.holds Tryd.pinned (.plain (OpenSpec.upto paschalIsTabularSpec)) paschalIsTabularUptoCard

/-- THE SECOND FORM's CARD OF 'computuslaw09.PaschalTables'. -/
def paschalTablesUptoCard : Claim7 := { stood := { row := paschalTablesUptoRow, standIns := [], harness := (true, "2501afd71bcf0e7e676ec435ac078a657d3ccbbcb964ad165321fded9a5a3067"), looks := false }, kinds := [], alts := [], laidByText := true, laidKinds := [.data, .widerDeep, .data], laidTests := true, laidLooks := .later }
def PaschalTablesUptoCardSaid : Prop := Claim7.holds Tryd.pinned (.plain (OpenSpec.upto paschalTablesSpec)) paschalTablesUptoCard

/-- THE SECOND FORM's CARD OF 'computuslaw09.PaschalJulian'. -/
def paschalJulianUptoCard : Claim7 := { stood := { row := paschalJulianUptoRow, standIns := [], harness := (true, "2501afd71bcf0e7e676ec435ac078a657d3ccbbcb964ad165321fded9a5a3067"), looks := false }, kinds := [], alts := [], laidByText := true, laidKinds := [.data, .widerDeep, .data], laidTests := true, laidLooks := .later }
def PaschalJulianUptoCardSaid : Prop := Claim7.holds Tryd.pinned (.plain (OpenSpec.upto paschalJulianSpec)) paschalJulianUptoCard

/-- THE SECOND FORM's CARD OF 'computuslaw09.PaschalMonths'. -/
def paschalMonthsUptoCard : Claim7 := { stood := { row := paschalMonthsUptoRow, standIns := [], harness := (true, "2501afd71bcf0e7e676ec435ac078a657d3ccbbcb964ad165321fded9a5a3067"), looks := false }, kinds := [], alts := [], laidByText := true, laidKinds := [.data, .widerDeep, .data], laidTests := true, laidLooks := .later }
def PaschalMonthsUptoCardSaid : Prop := Claim7.holds Tryd.pinned (.plain (OpenSpec.upto paschalMonthsSpec)) paschalMonthsUptoCard

/-- THE SECOND FORM's CARD OF 'computuslaw10.EasterMatchesReference'. -/
def easterMatchesReferenceUptoCard : Claim7 := { stood := { row := easterMatchesReferenceUptoRow, standIns := [], harness := (true, "2501afd71bcf0e7e676ec435ac078a657d3ccbbcb964ad165321fded9a5a3067"), looks := false }, kinds := [], alts := [], laidByText := true, laidKinds := [.data, .widerDeep, .data], laidTests := true, laidLooks := .later }
def EasterMatchesReferenceUptoCardSaid : Prop := Claim7.holds Tryd.pinned (.plain (OpenSpec.upto easterMatchesReferenceSpec)) easterMatchesReferenceUptoCard

/-- THE SECOND FORM's CARD OF 'computuslaw10.EasterIsSunday'. -/
def easterIsSundayUptoCard : Claim7 := { stood := { row := easterIsSundayUptoRow, standIns := [], harness := (true, "2501afd71bcf0e7e676ec435ac078a657d3ccbbcb964ad165321fded9a5a3067"), looks := false }, kinds := [], alts := [], laidByText := true, laidKinds := [.data, .widerDeep, .data], laidTests := true, laidLooks := .later }
def EasterIsSundayUptoCardSaid : Prop := Claim7.holds Tryd.pinned (.plain (OpenSpec.upto easterIsSundaySpec)) easterIsSundayUptoCard

/-- THE SECOND FORM's CARD OF 'computuslaw10.EasterOffsets'. -/
def easterOffsetsUptoCard : Claim7 := { stood := { row := easterOffsetsUptoRow, standIns := [], harness := (true, "2501afd71bcf0e7e676ec435ac078a657d3ccbbcb964ad165321fded9a5a3067"), looks := false }, kinds := [], alts := [], laidByText := true, laidKinds := [.data, .widerDeep, .data], laidTests := true, laidLooks := .later }
def EasterOffsetsUptoCardSaid : Prop := Claim7.holds Tryd.pinned (.plain (OpenSpec.upto easterOffsetsSpec)) easterOffsetsUptoCard

/-- THE SECOND FORM's CARD OF 'computuslaw10.EasterNextYear'. -/
def easterNextYearUptoCard : Claim7 := { stood := { row := easterNextYearUptoRow, standIns := [], harness := (true, "2501afd71bcf0e7e676ec435ac078a657d3ccbbcb964ad165321fded9a5a3067"), looks := false }, kinds := [], alts := [], laidByText := true, laidKinds := [.data, .widerDeep, .data], laidTests := true, laidLooks := .later }
def EasterNextYearUptoCardSaid : Prop := Claim7.holds Tryd.pinned (.plain (OpenSpec.upto easterNextYearSpec)) easterNextYearUptoCard

/-- THE SECOND FORM's CARD OF 'computuslaw11.GaussAgrees'. -/
def gaussAgreesUptoCard : Claim7 := { stood := { row := gaussAgreesUptoRow, standIns := [], harness := (true, "2501afd71bcf0e7e676ec435ac078a657d3ccbbcb964ad165321fded9a5a3067"), looks := false }, kinds := [], alts := [], laidByText := true, laidKinds := [.data, .widerDeep, .data], laidTests := true, laidLooks := .later }
def GaussAgreesUptoCardSaid : Prop := Claim7.holds Tryd.pinned (.plain (OpenSpec.upto gaussAgreesSpec)) gaussAgreesUptoCard

/-- THE SECOND FORM's CARD OF 'computuslaw13.OrthodoxMatchesReference'. -/
def orthodoxMatchesReferenceUptoCard : Claim7 := { stood := { row := orthodoxMatchesReferenceUptoRow, standIns := [], harness := (true, "2501afd71bcf0e7e676ec435ac078a657d3ccbbcb964ad165321fded9a5a3067"), looks := false }, kinds := [], alts := [], laidByText := true, laidKinds := [.data, .widerDeep, .data], laidTests := true, laidLooks := .later }
def OrthodoxMatchesReferenceUptoCardSaid : Prop := Claim7.holds Tryd.pinned (.plain (OpenSpec.upto orthodoxMatchesReferenceSpec)) orthodoxMatchesReferenceUptoCard

/-- THE SECOND FORM's CARD OF 'computuslaw13.OrthodoxIsSameDay'. -/
def orthodoxIsSameDayUptoCard : Claim7 := { stood := { row := orthodoxIsSameDayUptoRow, standIns := [], harness := (true, "2501afd71bcf0e7e676ec435ac078a657d3ccbbcb964ad165321fded9a5a3067"), looks := false }, kinds := [], alts := [], laidByText := true, laidKinds := [.data, .widerDeep, .data], laidTests := true, laidLooks := .later }
def OrthodoxIsSameDayUptoCardSaid : Prop := Claim7.holds Tryd.pinned (.plain (OpenSpec.upto orthodoxIsSameDaySpec)) orthodoxIsSameDayUptoCard

/-- THE SECOND FORM's CARD OF 'computuslaw13.OrthodoxGap'. -/
def orthodoxGapUptoCard : Claim7 := { stood := { row := orthodoxGapUptoRow, standIns := [], harness := (true, "2501afd71bcf0e7e676ec435ac078a657d3ccbbcb964ad165321fded9a5a3067"), looks := false }, kinds := [], alts := [], laidByText := true, laidKinds := [.data, .widerDeep, .data], laidTests := true, laidLooks := .later }
def OrthodoxGapUptoCardSaid : Prop := Claim7.holds Tryd.pinned (.plain (OpenSpec.upto orthodoxGapSpec)) orthodoxGapUptoCard

/-- THE SECOND FORM's CARD OF 'computuslaw13.OrthodoxDelay'. -/
def orthodoxDelayUptoCard : Claim7 := { stood := { row := orthodoxDelayUptoRow, standIns := [], harness := (true, "2501afd71bcf0e7e676ec435ac078a657d3ccbbcb964ad165321fded9a5a3067"), looks := false }, kinds := [], alts := [], laidByText := true, laidKinds := [.data, .widerDeep, .data], laidTests := true, laidLooks := .later }
def OrthodoxDelayUptoCardSaid : Prop := Claim7.holds Tryd.pinned (.plain (OpenSpec.upto orthodoxDelaySpec)) orthodoxDelayUptoCard

/-- THE SECOND FORM's CARD OF 'computuslaw13.OrthodoxCentury'. -/
def orthodoxCenturyUptoCard : Claim7 := { stood := { row := orthodoxCenturyUptoRow, standIns := [], harness := (true, "2501afd71bcf0e7e676ec435ac078a657d3ccbbcb964ad165321fded9a5a3067"), looks := false }, kinds := [], alts := [], laidByText := true, laidKinds := [.data, .widerDeep, .data], laidTests := true, laidLooks := .later }
def OrthodoxCenturyUptoCardSaid : Prop := Claim7.holds Tryd.pinned (.plain (OpenSpec.upto orthodoxCenturySpec)) orthodoxCenturyUptoCard

/-- THE SECOND FORM's CARD OF 'computuslaw12.ButcherAgrees'. -/
def butcherAgreesUptoCard : Claim7 := { stood := { row := butcherAgreesUptoRow, standIns := [], harness := (true, "2501afd71bcf0e7e676ec435ac078a657d3ccbbcb964ad165321fded9a5a3067"), looks := false }, kinds := [], alts := [], laidByText := true, laidKinds := [.data, .widerDeep, .data], laidTests := true, laidLooks := .later }
def ButcherAgreesUptoCardSaid : Prop := Claim7.holds Tryd.pinned (.plain (OpenSpec.upto butcherAgreesSpec)) butcherAgreesUptoCard
end Rows
end Go.Proofs.YtliomdnglhjfaaaDoor

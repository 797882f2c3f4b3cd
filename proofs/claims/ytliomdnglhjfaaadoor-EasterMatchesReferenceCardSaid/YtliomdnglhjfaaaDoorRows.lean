/-
  NARROWER THAN 'FOR EVERY INPUT', by the rows' own cells (each row's printed sentence says how): PaschalMatchesReference: laid · PaschalIsTabular: laid · PaschalTables: laid · PaschalJulian: laid · PaschalMonths: laid · EasterMatchesReference: laid · EasterIsSunday: laid · EasterOffsets: laid · EasterNextYear: laid · GaussAgrees: laid · OrthodoxMatchesReference: laid · OrthodoxIsSameDay: laid · OrthodoxGap: laid · OrthodoxDelay: laid · OrthodoxCentury: laid · ButcherAgrees: laid.
  DERIVED. THE GIVEN ROWS OF THIS SEAT. 16 by the template 'for every input the law returns true; each argument reads behind the call as it read before'; 0 by the template 'total and deterministic' (their statements: YtliomdnglhjfaaaDoorTotals.lean).
  GIVEN WITH THE SEED: the statements are not yours to turn. If you find one false, say at which input.
  Laid BY PROGRAM, IN A SANDBOX (cutbox-rows.mjs): the forced cells as the released guide's own fill.sh prints them over the translation 2a44f0329b95f1b0… (all of the seat's roots in one cut). By AI agents, Wed Nov 11 2026. No macro, syntax, notation, axiom, sorry.
-/
import Derived.Test.YtliomdnglhjfaaaDoorChecked
import GoSem.Claim
import GoSem.ClaimJoined
import GoSem.ClaimMapViews
import Derived.JoinedTies
import Derived.KernelRfl
namespace Go.Proofs.YtliomdnglhjfaaaDoor
/- THE CELL 'sum', in the pinned program and in every row, IS THE sha256 OF THE DUMP (.gsa) THAT YtliomdnglhjfaaaDoorProg.lean LOADS. Nothing in Lean hashes anything: it is a label: what it is worth is what the hold of that sum in a sandbox is worth. -/
noncomputable def Tryd.pinned : Pinned := { name := "ytliomdnglhjfaaadoor", sum := "2a44f0329b95f1b00bb2f3a649b1d771680f8f3cf854dc155ad3fe28119583a2", checked := Tryd.checked }
namespace Rows
def none {H : Type} : Left H := { results := [], args := [] }

/- WHAT THE LISTED PACKAGE-LEVEL VARIABLES READ AS WHEN THE CALL BEGINS. Each datum BY PROGRAM (the guide's laid-datum.mjs) off the statement by which the dump's own 'gosem.cut.vars' lays the variable. In a bare row this is a premise. The card (YtliomdnglhjfaaaDoorCards.lean) ties it to the program's text. -/
def laid_computus_julian_lengths {H : Type} : DataW H := .agg [.lit (.int .i64 31), .lit (.int .i64 28), .lit (.int .i64 31), .lit (.int .i64 30), .lit (.int .i64 31), .lit (.int .i64 30), .lit (.int .i64 31), .lit (.int .i64 31), .lit (.int .i64 30), .lit (.int .i64 31), .lit (.int .i64 30), .lit (.int .i64 31)]
def laid_computus_label_lengths {H : Type} : DataW H := .agg [.lit (.int .i64 31), .lit (.int .i64 28), .lit (.int .i64 31), .lit (.int .i64 30), .lit (.int .i64 31), .lit (.int .i64 30), .lit (.int .i64 31), .lit (.int .i64 31), .lit (.int .i64 30), .lit (.int .i64 31), .lit (.int .i64 30), .lit (.int .i64 31)]
def laid_computus_label_spans {H : Type} : DataW H := .agg [.lit (.int .i64 30), .lit (.int .i64 29), .lit (.int .i64 30), .lit (.int .i64 29), .lit (.int .i64 30), .lit (.int .i64 29), .lit (.int .i64 30), .lit (.int .i64 29), .lit (.int .i64 30), .lit (.int .i64 29), .lit (.int .i64 30), .lit (.int .i64 29)]

/-- 'computuslaw09.PaschalMatchesReference': WHATEVER THE INPUT: true; the input reads as it did. -/
def paschalMatchesReferenceSpec : ChangeSpec := { name := "paschalMatchesReference", fn := fun _ => fun
  | [d1, d2, d3] => { results := [.lit (.bool true)], args := [d1, d2, d3] }
  | _ => none }
def paschalMatchesReferenceRow : OpenClaim := { program := "ytliomdnglhjfaaadoor", sum := "2a44f0329b95f1b00bb2f3a649b1d771680f8f3cf854dc155ad3fe28119583a2", func := "computus/computuslaw09.PaschalMatchesReference", spec := "paschalMatchesReference", unfollowed := true, recurses := true, named := ["computus/julian.lengths", "computus/label.lengths", "computus/label.spans"], apart := false, laid := [("computus/julian.lengths", laid_computus_julian_lengths), ("computus/label.lengths", laid_computus_label_lengths), ("computus/label.spans", laid_computus_label_spans)] }
def PaschalMatchesReferenceSaid : Prop := paschalMatchesReferenceRow.holds Tryd.pinned (OpenSpec.ofChange paschalMatchesReferenceSpec)

/-- ITS FALSE NEIGHBOUR: 'it returns false'. Refute it at one input. -/
def paschalMatchesReferenceWrong : ChangeSpec := { name := "paschalMatchesReference", fn := fun _ => fun
  | [d1, d2, d3] => { results := [.lit (.bool false)], args := [d1, d2, d3] }
  | _ => none }
def PaschalMatchesReferenceWrongFalsely : Prop := paschalMatchesReferenceRow.holds Tryd.pinned (OpenSpec.ofChange paschalMatchesReferenceWrong)

/-- 'computuslaw09.PaschalIsTabular': WHATEVER THE INPUT: true; the input reads as it did. -/
def paschalIsTabularSpec : ChangeSpec := { name := "paschalIsTabular", fn := fun _ => fun
  | [d1, d2] => { results := [.lit (.bool true)], args := [d1, d2] }
  | _ => none }
def paschalIsTabularRow : OpenClaim := { program := "ytliomdnglhjfaaadoor", sum := "2a44f0329b95f1b00bb2f3a649b1d771680f8f3cf854dc155ad3fe28119583a2", func := "computus/computuslaw09.PaschalIsTabular", spec := "paschalIsTabular", unfollowed := true, recurses := true, named := ["computus/julian.lengths", "computus/label.lengths", "computus/label.spans"], apart := false, laid := [("computus/julian.lengths", laid_computus_julian_lengths), ("computus/label.lengths", laid_computus_label_lengths), ("computus/label.spans", laid_computus_label_spans)] }
def PaschalIsTabularSaid : Prop := paschalIsTabularRow.holds Tryd.pinned (OpenSpec.ofChange paschalIsTabularSpec)

/-- ITS FALSE NEIGHBOUR: 'it returns false'. Refute it at one input. -/
def paschalIsTabularWrong : ChangeSpec := { name := "paschalIsTabular", fn := fun _ => fun
  | [d1, d2] => { results := [.lit (.bool false)], args := [d1, d2] }
  | _ => none }
def PaschalIsTabularWrongFalsely : Prop := paschalIsTabularRow.holds Tryd.pinned (OpenSpec.ofChange paschalIsTabularWrong)

/-- 'computuslaw09.PaschalTables': WHATEVER THE INPUT: true; the input reads as it did. -/
def paschalTablesSpec : ChangeSpec := { name := "paschalTables", fn := fun _ => fun
  | [d1, d2, d3, d4] => { results := [.lit (.bool true)], args := [d1, d2, d3, d4] }
  | _ => none }
def paschalTablesRow : OpenClaim := { program := "ytliomdnglhjfaaadoor", sum := "2a44f0329b95f1b00bb2f3a649b1d771680f8f3cf854dc155ad3fe28119583a2", func := "computus/computuslaw09.PaschalTables", spec := "paschalTables", unfollowed := true, recurses := true, named := ["computus/label.lengths", "computus/label.spans", "computus/julian.lengths"], apart := false, laid := [("computus/julian.lengths", laid_computus_julian_lengths), ("computus/label.lengths", laid_computus_label_lengths), ("computus/label.spans", laid_computus_label_spans)] }
def PaschalTablesSaid : Prop := paschalTablesRow.holds Tryd.pinned (OpenSpec.ofChange paschalTablesSpec)

/-- ITS FALSE NEIGHBOUR: 'it returns false'. Refute it at one input. -/
def paschalTablesWrong : ChangeSpec := { name := "paschalTables", fn := fun _ => fun
  | [d1, d2, d3, d4] => { results := [.lit (.bool false)], args := [d1, d2, d3, d4] }
  | _ => none }
def PaschalTablesWrongFalsely : Prop := paschalTablesRow.holds Tryd.pinned (OpenSpec.ofChange paschalTablesWrong)

/-- 'computuslaw09.PaschalJulian': WHATEVER THE INPUT: true; the input reads as it did. -/
def paschalJulianSpec : ChangeSpec := { name := "paschalJulian", fn := fun _ => fun
  | [d1, d2] => { results := [.lit (.bool true)], args := [d1, d2] }
  | _ => none }
def paschalJulianRow : OpenClaim := { program := "ytliomdnglhjfaaadoor", sum := "2a44f0329b95f1b00bb2f3a649b1d771680f8f3cf854dc155ad3fe28119583a2", func := "computus/computuslaw09.PaschalJulian", spec := "paschalJulian", unfollowed := true, recurses := true, named := ["computus/julian.lengths", "computus/label.lengths", "computus/label.spans"], apart := false, laid := [("computus/julian.lengths", laid_computus_julian_lengths), ("computus/label.lengths", laid_computus_label_lengths), ("computus/label.spans", laid_computus_label_spans)] }
def PaschalJulianSaid : Prop := paschalJulianRow.holds Tryd.pinned (OpenSpec.ofChange paschalJulianSpec)

/-- ITS FALSE NEIGHBOUR: 'it returns false'. Refute it at one input. -/
def paschalJulianWrong : ChangeSpec := { name := "paschalJulian", fn := fun _ => fun
  | [d1, d2] => { results := [.lit (.bool false)], args := [d1, d2] }
  | _ => none }
def PaschalJulianWrongFalsely : Prop := paschalJulianRow.holds Tryd.pinned (OpenSpec.ofChange paschalJulianWrong)

/-- 'computuslaw09.PaschalMonths': WHATEVER THE INPUT: true; the input reads as it did. -/
def paschalMonthsSpec : ChangeSpec := { name := "paschalMonths", fn := fun _ => fun
  | [d1, d2, d3] => { results := [.lit (.bool true)], args := [d1, d2, d3] }
  | _ => none }
def paschalMonthsRow : OpenClaim := { program := "ytliomdnglhjfaaadoor", sum := "2a44f0329b95f1b00bb2f3a649b1d771680f8f3cf854dc155ad3fe28119583a2", func := "computus/computuslaw09.PaschalMonths", spec := "paschalMonths", unfollowed := true, recurses := true, named := ["computus/julian.lengths", "computus/label.lengths", "computus/label.spans"], apart := false, laid := [("computus/julian.lengths", laid_computus_julian_lengths), ("computus/label.lengths", laid_computus_label_lengths), ("computus/label.spans", laid_computus_label_spans)] }
def PaschalMonthsSaid : Prop := paschalMonthsRow.holds Tryd.pinned (OpenSpec.ofChange paschalMonthsSpec)

/-- ITS FALSE NEIGHBOUR: 'it returns false'. Refute it at one input. -/
def paschalMonthsWrong : ChangeSpec := { name := "paschalMonths", fn := fun _ => fun
  | [d1, d2, d3] => { results := [.lit (.bool false)], args := [d1, d2, d3] }
  | _ => none }
def PaschalMonthsWrongFalsely : Prop := paschalMonthsRow.holds Tryd.pinned (OpenSpec.ofChange paschalMonthsWrong)

/-- 'computuslaw10.EasterMatchesReference': WHATEVER THE INPUT: true; the input reads as it did. -/
def easterMatchesReferenceSpec : ChangeSpec := { name := "easterMatchesReference", fn := fun _ => fun
  | [d1, d2, d3] => { results := [.lit (.bool true)], args := [d1, d2, d3] }
  | _ => none }
def easterMatchesReferenceRow : OpenClaim := { program := "ytliomdnglhjfaaadoor", sum := "2a44f0329b95f1b00bb2f3a649b1d771680f8f3cf854dc155ad3fe28119583a2", func := "computus/computuslaw10.EasterMatchesReference", spec := "easterMatchesReference", unfollowed := true, recurses := true, named := ["computus/julian.lengths", "computus/label.lengths", "computus/label.spans"], apart := false, laid := [("computus/julian.lengths", laid_computus_julian_lengths), ("computus/label.lengths", laid_computus_label_lengths), ("computus/label.spans", laid_computus_label_spans)] }
def EasterMatchesReferenceSaid : Prop := easterMatchesReferenceRow.holds Tryd.pinned (OpenSpec.ofChange easterMatchesReferenceSpec)

/-- ITS FALSE NEIGHBOUR: 'it returns false'. Refute it at one input. -/
def easterMatchesReferenceWrong : ChangeSpec := { name := "easterMatchesReference", fn := fun _ => fun
  | [d1, d2, d3] => { results := [.lit (.bool false)], args := [d1, d2, d3] }
  | _ => none }
def EasterMatchesReferenceWrongFalsely : Prop := easterMatchesReferenceRow.holds Tryd.pinned (OpenSpec.ofChange easterMatchesReferenceWrong)

/-- 'computuslaw10.EasterIsSunday': WHATEVER THE INPUT: true; the input reads as it did. -/
def easterIsSundaySpec : ChangeSpec := { name := "easterIsSunday", fn := fun _ => fun
  | [d1, d2] => { results := [.lit (.bool true)], args := [d1, d2] }
  | _ => none }
def easterIsSundayRow : OpenClaim := { program := "ytliomdnglhjfaaadoor", sum := "2a44f0329b95f1b00bb2f3a649b1d771680f8f3cf854dc155ad3fe28119583a2", func := "computus/computuslaw10.EasterIsSunday", spec := "easterIsSunday", unfollowed := true, recurses := true, named := ["computus/julian.lengths", "computus/label.lengths", "computus/label.spans"], apart := false, laid := [("computus/julian.lengths", laid_computus_julian_lengths), ("computus/label.lengths", laid_computus_label_lengths), ("computus/label.spans", laid_computus_label_spans)] }
def EasterIsSundaySaid : Prop := easterIsSundayRow.holds Tryd.pinned (OpenSpec.ofChange easterIsSundaySpec)

/-- ITS FALSE NEIGHBOUR: 'it returns false'. Refute it at one input. -/
def easterIsSundayWrong : ChangeSpec := { name := "easterIsSunday", fn := fun _ => fun
  | [d1, d2] => { results := [.lit (.bool false)], args := [d1, d2] }
  | _ => none }
def EasterIsSundayWrongFalsely : Prop := easterIsSundayRow.holds Tryd.pinned (OpenSpec.ofChange easterIsSundayWrong)

/-- 'computuslaw10.EasterOffsets': WHATEVER THE INPUT: true; the input reads as it did. -/
def easterOffsetsSpec : ChangeSpec := { name := "easterOffsets", fn := fun _ => fun
  | [d1, d2] => { results := [.lit (.bool true)], args := [d1, d2] }
  | _ => none }
def easterOffsetsRow : OpenClaim := { program := "ytliomdnglhjfaaadoor", sum := "2a44f0329b95f1b00bb2f3a649b1d771680f8f3cf854dc155ad3fe28119583a2", func := "computus/computuslaw10.EasterOffsets", spec := "easterOffsets", unfollowed := true, recurses := true, named := ["computus/julian.lengths", "computus/label.lengths", "computus/label.spans"], apart := false, laid := [("computus/julian.lengths", laid_computus_julian_lengths), ("computus/label.lengths", laid_computus_label_lengths), ("computus/label.spans", laid_computus_label_spans)] }
def EasterOffsetsSaid : Prop := easterOffsetsRow.holds Tryd.pinned (OpenSpec.ofChange easterOffsetsSpec)

/-- ITS FALSE NEIGHBOUR: 'it returns false'. Refute it at one input. -/
def easterOffsetsWrong : ChangeSpec := { name := "easterOffsets", fn := fun _ => fun
  | [d1, d2] => { results := [.lit (.bool false)], args := [d1, d2] }
  | _ => none }
def EasterOffsetsWrongFalsely : Prop := easterOffsetsRow.holds Tryd.pinned (OpenSpec.ofChange easterOffsetsWrong)

/-- 'computuslaw10.EasterNextYear': WHATEVER THE INPUT: true; the input reads as it did. -/
def easterNextYearSpec : ChangeSpec := { name := "easterNextYear", fn := fun _ => fun
  | [d1, d2] => { results := [.lit (.bool true)], args := [d1, d2] }
  | _ => none }
def easterNextYearRow : OpenClaim := { program := "ytliomdnglhjfaaadoor", sum := "2a44f0329b95f1b00bb2f3a649b1d771680f8f3cf854dc155ad3fe28119583a2", func := "computus/computuslaw10.EasterNextYear", spec := "easterNextYear", unfollowed := true, recurses := true, named := ["computus/julian.lengths", "computus/label.lengths", "computus/label.spans"], apart := false, laid := [("computus/julian.lengths", laid_computus_julian_lengths), ("computus/label.lengths", laid_computus_label_lengths), ("computus/label.spans", laid_computus_label_spans)] }
def EasterNextYearSaid : Prop := easterNextYearRow.holds Tryd.pinned (OpenSpec.ofChange easterNextYearSpec)

/-- ITS FALSE NEIGHBOUR: 'it returns false'. Refute it at one input. -/
def easterNextYearWrong : ChangeSpec := { name := "easterNextYear", fn := fun _ => fun
  | [d1, d2] => { results := [.lit (.bool false)], args := [d1, d2] }
  | _ => none }
def EasterNextYearWrongFalsely : Prop := easterNextYearRow.holds Tryd.pinned (OpenSpec.ofChange easterNextYearWrong)

/-- 'computuslaw11.GaussAgrees': WHATEVER THE INPUT: true; the input reads as it did. -/
def gaussAgreesSpec : ChangeSpec := { name := "gaussAgrees", fn := fun _ => fun
  | [d1, d2] => { results := [.lit (.bool true)], args := [d1, d2] }
  | _ => none }
def gaussAgreesRow : OpenClaim := { program := "ytliomdnglhjfaaadoor", sum := "2a44f0329b95f1b00bb2f3a649b1d771680f8f3cf854dc155ad3fe28119583a2", func := "computus/computuslaw11.GaussAgrees", spec := "gaussAgrees", unfollowed := true, recurses := true, named := ["computus/julian.lengths", "computus/label.lengths", "computus/label.spans"], apart := false, laid := [("computus/julian.lengths", laid_computus_julian_lengths), ("computus/label.lengths", laid_computus_label_lengths), ("computus/label.spans", laid_computus_label_spans)] }
def GaussAgreesSaid : Prop := gaussAgreesRow.holds Tryd.pinned (OpenSpec.ofChange gaussAgreesSpec)

/-- ITS FALSE NEIGHBOUR: 'it returns false'. Refute it at one input. -/
def gaussAgreesWrong : ChangeSpec := { name := "gaussAgrees", fn := fun _ => fun
  | [d1, d2] => { results := [.lit (.bool false)], args := [d1, d2] }
  | _ => none }
def GaussAgreesWrongFalsely : Prop := gaussAgreesRow.holds Tryd.pinned (OpenSpec.ofChange gaussAgreesWrong)

/-- 'computuslaw13.OrthodoxMatchesReference': WHATEVER THE INPUT: true; the input reads as it did. -/
def orthodoxMatchesReferenceSpec : ChangeSpec := { name := "orthodoxMatchesReference", fn := fun _ => fun
  | [d1, d2] => { results := [.lit (.bool true)], args := [d1, d2] }
  | _ => none }
def orthodoxMatchesReferenceRow : OpenClaim := { program := "ytliomdnglhjfaaadoor", sum := "2a44f0329b95f1b00bb2f3a649b1d771680f8f3cf854dc155ad3fe28119583a2", func := "computus/computuslaw13.OrthodoxMatchesReference", spec := "orthodoxMatchesReference", unfollowed := true, recurses := true, named := ["computus/julian.lengths", "computus/label.lengths", "computus/label.spans"], apart := false, laid := [("computus/julian.lengths", laid_computus_julian_lengths), ("computus/label.lengths", laid_computus_label_lengths), ("computus/label.spans", laid_computus_label_spans)] }
def OrthodoxMatchesReferenceSaid : Prop := orthodoxMatchesReferenceRow.holds Tryd.pinned (OpenSpec.ofChange orthodoxMatchesReferenceSpec)

/-- ITS FALSE NEIGHBOUR: 'it returns false'. Refute it at one input. -/
def orthodoxMatchesReferenceWrong : ChangeSpec := { name := "orthodoxMatchesReference", fn := fun _ => fun
  | [d1, d2] => { results := [.lit (.bool false)], args := [d1, d2] }
  | _ => none }
def OrthodoxMatchesReferenceWrongFalsely : Prop := orthodoxMatchesReferenceRow.holds Tryd.pinned (OpenSpec.ofChange orthodoxMatchesReferenceWrong)

/-- 'computuslaw13.OrthodoxIsSameDay': WHATEVER THE INPUT: true; the input reads as it did. -/
def orthodoxIsSameDaySpec : ChangeSpec := { name := "orthodoxIsSameDay", fn := fun _ => fun
  | [d] => { results := [.lit (.bool true)], args := [d] }
  | _ => none }
def orthodoxIsSameDayRow : OpenClaim := { program := "ytliomdnglhjfaaadoor", sum := "2a44f0329b95f1b00bb2f3a649b1d771680f8f3cf854dc155ad3fe28119583a2", func := "computus/computuslaw13.OrthodoxIsSameDay", spec := "orthodoxIsSameDay", unfollowed := true, recurses := true, named := ["computus/julian.lengths", "computus/label.lengths", "computus/label.spans"], apart := false, laid := [("computus/julian.lengths", laid_computus_julian_lengths), ("computus/label.lengths", laid_computus_label_lengths), ("computus/label.spans", laid_computus_label_spans)] }
def OrthodoxIsSameDaySaid : Prop := orthodoxIsSameDayRow.holds Tryd.pinned (OpenSpec.ofChange orthodoxIsSameDaySpec)

/-- ITS FALSE NEIGHBOUR: 'it returns false'. Refute it at one input. -/
def orthodoxIsSameDayWrong : ChangeSpec := { name := "orthodoxIsSameDay", fn := fun _ => fun
  | [d] => { results := [.lit (.bool false)], args := [d] }
  | _ => none }
def OrthodoxIsSameDayWrongFalsely : Prop := orthodoxIsSameDayRow.holds Tryd.pinned (OpenSpec.ofChange orthodoxIsSameDayWrong)

/-- 'computuslaw13.OrthodoxGap': WHATEVER THE INPUT: true; the input reads as it did. -/
def orthodoxGapSpec : ChangeSpec := { name := "orthodoxGap", fn := fun _ => fun
  | [d] => { results := [.lit (.bool true)], args := [d] }
  | _ => none }
def orthodoxGapRow : OpenClaim := { program := "ytliomdnglhjfaaadoor", sum := "2a44f0329b95f1b00bb2f3a649b1d771680f8f3cf854dc155ad3fe28119583a2", func := "computus/computuslaw13.OrthodoxGap", spec := "orthodoxGap", unfollowed := true, recurses := true, named := ["computus/julian.lengths", "computus/label.lengths", "computus/label.spans"], apart := false, laid := [("computus/julian.lengths", laid_computus_julian_lengths), ("computus/label.lengths", laid_computus_label_lengths), ("computus/label.spans", laid_computus_label_spans)] }
def OrthodoxGapSaid : Prop := orthodoxGapRow.holds Tryd.pinned (OpenSpec.ofChange orthodoxGapSpec)

/-- ITS FALSE NEIGHBOUR: 'it returns false'. Refute it at one input. -/
def orthodoxGapWrong : ChangeSpec := { name := "orthodoxGap", fn := fun _ => fun
  | [d] => { results := [.lit (.bool false)], args := [d] }
  | _ => none }
def OrthodoxGapWrongFalsely : Prop := orthodoxGapRow.holds Tryd.pinned (OpenSpec.ofChange orthodoxGapWrong)

/-- 'computuslaw13.OrthodoxDelay': WHATEVER THE INPUT: true; the input reads as it did. -/
def orthodoxDelaySpec : ChangeSpec := { name := "orthodoxDelay", fn := fun _ => fun
  | [d] => { results := [.lit (.bool true)], args := [d] }
  | _ => none }
def orthodoxDelayRow : OpenClaim := { program := "ytliomdnglhjfaaadoor", sum := "2a44f0329b95f1b00bb2f3a649b1d771680f8f3cf854dc155ad3fe28119583a2", func := "computus/computuslaw13.OrthodoxDelay", spec := "orthodoxDelay", unfollowed := true, recurses := true, named := ["computus/julian.lengths", "computus/label.lengths", "computus/label.spans"], apart := false, laid := [("computus/julian.lengths", laid_computus_julian_lengths), ("computus/label.lengths", laid_computus_label_lengths), ("computus/label.spans", laid_computus_label_spans)] }
def OrthodoxDelaySaid : Prop := orthodoxDelayRow.holds Tryd.pinned (OpenSpec.ofChange orthodoxDelaySpec)

/-- ITS FALSE NEIGHBOUR: 'it returns false'. Refute it at one input. -/
def orthodoxDelayWrong : ChangeSpec := { name := "orthodoxDelay", fn := fun _ => fun
  | [d] => { results := [.lit (.bool false)], args := [d] }
  | _ => none }
def OrthodoxDelayWrongFalsely : Prop := orthodoxDelayRow.holds Tryd.pinned (OpenSpec.ofChange orthodoxDelayWrong)

/-- 'computuslaw13.OrthodoxCentury': WHATEVER THE INPUT: true; the input reads as it did. -/
def orthodoxCenturySpec : ChangeSpec := { name := "orthodoxCentury", fn := fun _ => fun
  | [d] => { results := [.lit (.bool true)], args := [d] }
  | _ => none }
def orthodoxCenturyRow : OpenClaim := { program := "ytliomdnglhjfaaadoor", sum := "2a44f0329b95f1b00bb2f3a649b1d771680f8f3cf854dc155ad3fe28119583a2", func := "computus/computuslaw13.OrthodoxCentury", spec := "orthodoxCentury", unfollowed := true, recurses := true, named := ["computus/julian.lengths", "computus/label.lengths", "computus/label.spans"], apart := false, laid := [("computus/julian.lengths", laid_computus_julian_lengths), ("computus/label.lengths", laid_computus_label_lengths), ("computus/label.spans", laid_computus_label_spans)] }
def OrthodoxCenturySaid : Prop := orthodoxCenturyRow.holds Tryd.pinned (OpenSpec.ofChange orthodoxCenturySpec)

/-- ITS FALSE NEIGHBOUR: 'it returns false'. Refute it at one input. -/
def orthodoxCenturyWrong : ChangeSpec := { name := "orthodoxCentury", fn := fun _ => fun
  | [d] => { results := [.lit (.bool false)], args := [d] }
  | _ => none }
def OrthodoxCenturyWrongFalsely : Prop := orthodoxCenturyRow.holds Tryd.pinned (OpenSpec.ofChange orthodoxCenturyWrong)

/-- 'computuslaw12.ButcherAgrees': WHATEVER THE INPUT: true; the input reads as it did. -/
def butcherAgreesSpec : ChangeSpec := { name := "butcherAgrees", fn := fun _ => fun
  | [d1, d2] => { results := [.lit (.bool true)], args := [d1, d2] }
  | _ => none }
def butcherAgreesRow : OpenClaim := { program := "ytliomdnglhjfaaadoor", sum := "2a44f0329b95f1b00bb2f3a649b1d771680f8f3cf854dc155ad3fe28119583a2", func := "computus/computuslaw12.ButcherAgrees", spec := "butcherAgrees", unfollowed := true, recurses := true, named := ["computus/julian.lengths", "computus/label.lengths", "computus/label.spans"], apart := false, laid := [("computus/julian.lengths", laid_computus_julian_lengths), ("computus/label.lengths", laid_computus_label_lengths), ("computus/label.spans", laid_computus_label_spans)] }
def ButcherAgreesSaid : Prop := butcherAgreesRow.holds Tryd.pinned (OpenSpec.ofChange butcherAgreesSpec)

/-- ITS FALSE NEIGHBOUR: 'it returns false'. Refute it at one input. -/
def butcherAgreesWrong : ChangeSpec := { name := "butcherAgrees", fn := fun _ => fun
  | [d1, d2] => { results := [.lit (.bool false)], args := [d1, d2] }
  | _ => none }
def ButcherAgreesWrongFalsely : Prop := butcherAgreesRow.holds Tryd.pinned (OpenSpec.ofChange butcherAgreesWrong)

/- THE SECOND FORM. 'bulk': how many values and letters a reading holds, each counted each time it is reached (what is shared counts as often as it is met; a slice's spare places count too). A statement '..UptoSaid' is the law's where the arguments, and the package variables that the reading takes, are together of bulk at most 1048576: NARROWER than '..Said'. Prove '..Said' where nothing that the law and all that it calls make is longer than what came in: it says more and counts as full. Else prove '..UptoSaid'. A law counts once. -/
mutual
def uptoBulk {H : Type} : DataW H → Nat
  | .lit (.string bytes) => bytes.length + 1
  | .lit _ => 1
  | .nil => 1
  | .ptr d => uptoBulk d + 1
  | .slice elems spare => uptoBulkAll elems + uptoBulkAll spare + 1
  | .agg parts => uptoBulkAll parts + 1
  | .iface _ d => uptoBulk d + 1
  | .map entries => uptoBulkEntries entries + 1
  | .held _ => 1
def uptoBulkAll {H : Type} : List (DataW H) → Nat
  | [] => 0
  | d :: r => uptoBulk d + uptoBulkAll r
def uptoBulkEntries {H : Type} : List (Lit × DataW H) → Nat
  | [] => 0
  | x :: r => uptoBulkEntry x + uptoBulkEntries r
def uptoBulkEntry {H : Type} : Lit × DataW H → Nat
  | (.string bytes, d) => bytes.length + uptoBulk d + 1
  | (_, d) => uptoBulk d + 1
 end
def uptoSmall : (H : Type) → List (DataW H) → Bool := fun _ ds => decide (uptoBulkAll ds ≤ 1048576)
def OpenSpec.upto (s : _root_.Go.ChangeSpec) : _root_.Go.OpenSpec := { _root_.Go.OpenSpec.ofChange s with cond := some uptoSmall }

/-- 'computuslaw09.PaschalMatchesReference', WHERE WHAT IT READS IS OF BULK AT MOST 1048576: true; the input reads as it did. -/
def paschalMatchesReferenceUptoRow : OpenClaim := { program := "ytliomdnglhjfaaadoor", sum := "2a44f0329b95f1b00bb2f3a649b1d771680f8f3cf854dc155ad3fe28119583a2", func := "computus/computuslaw09.PaschalMatchesReference", spec := "paschalMatchesReference", unfollowed := true, recurses := true, named := ["computus/julian.lengths", "computus/label.lengths", "computus/label.spans"], apart := false, laid := [("computus/julian.lengths", laid_computus_julian_lengths), ("computus/label.lengths", laid_computus_label_lengths), ("computus/label.spans", laid_computus_label_spans)], narrowed := true }
def PaschalMatchesReferenceUptoSaid : Prop := paschalMatchesReferenceUptoRow.holds Tryd.pinned (OpenSpec.upto paschalMatchesReferenceSpec)

/-- 'computuslaw09.PaschalIsTabular', WHERE WHAT IT READS IS OF BULK AT MOST 1048576: true; the input reads as it did. -/
def paschalIsTabularUptoRow : OpenClaim := { program := "ytliomdnglhjfaaadoor", sum := "2a44f0329b95f1b00bb2f3a649b1d771680f8f3cf854dc155ad3fe28119583a2", func := "computus/computuslaw09.PaschalIsTabular", spec := "paschalIsTabular", unfollowed := true, recurses := true, named := ["computus/julian.lengths", "computus/label.lengths", "computus/label.spans"], apart := false, laid := [("computus/julian.lengths", laid_computus_julian_lengths), ("computus/label.lengths", laid_computus_label_lengths), ("computus/label.spans", laid_computus_label_spans)], narrowed := true }
def PaschalIsTabularUptoSaid : Prop := paschalIsTabularUptoRow.holds Tryd.pinned (OpenSpec.upto paschalIsTabularSpec)

/-- 'computuslaw09.PaschalTables', WHERE WHAT IT READS IS OF BULK AT MOST 1048576: true; the input reads as it did. -/
def paschalTablesUptoRow : OpenClaim := { program := "ytliomdnglhjfaaadoor", sum := "2a44f0329b95f1b00bb2f3a649b1d771680f8f3cf854dc155ad3fe28119583a2", func := "computus/computuslaw09.PaschalTables", spec := "paschalTables", unfollowed := true, recurses := true, named := ["computus/label.lengths", "computus/label.spans", "computus/julian.lengths"], apart := false, laid := [("computus/julian.lengths", laid_computus_julian_lengths), ("computus/label.lengths", laid_computus_label_lengths), ("computus/label.spans", laid_computus_label_spans)], narrowed := true }
def PaschalTablesUptoSaid : Prop := paschalTablesUptoRow.holds Tryd.pinned (OpenSpec.upto paschalTablesSpec)

/-- 'computuslaw09.PaschalJulian', WHERE WHAT IT READS IS OF BULK AT MOST 1048576: true; the input reads as it did. -/
def paschalJulianUptoRow : OpenClaim := { program := "ytliomdnglhjfaaadoor", sum := "2a44f0329b95f1b00bb2f3a649b1d771680f8f3cf854dc155ad3fe28119583a2", func := "computus/computuslaw09.PaschalJulian", spec := "paschalJulian", unfollowed := true, recurses := true, named := ["computus/julian.lengths", "computus/label.lengths", "computus/label.spans"], apart := false, laid := [("computus/julian.lengths", laid_computus_julian_lengths), ("computus/label.lengths", laid_computus_label_lengths), ("computus/label.spans", laid_computus_label_spans)], narrowed := true }
def PaschalJulianUptoSaid : Prop := paschalJulianUptoRow.holds Tryd.pinned (OpenSpec.upto paschalJulianSpec)

/-- 'computuslaw09.PaschalMonths', WHERE WHAT IT READS IS OF BULK AT MOST 1048576: true; the input reads as it did. -/
def paschalMonthsUptoRow : OpenClaim := { program := "ytliomdnglhjfaaadoor", sum := "2a44f0329b95f1b00bb2f3a649b1d771680f8f3cf854dc155ad3fe28119583a2", func := "computus/computuslaw09.PaschalMonths", spec := "paschalMonths", unfollowed := true, recurses := true, named := ["computus/julian.lengths", "computus/label.lengths", "computus/label.spans"], apart := false, laid := [("computus/julian.lengths", laid_computus_julian_lengths), ("computus/label.lengths", laid_computus_label_lengths), ("computus/label.spans", laid_computus_label_spans)], narrowed := true }
def PaschalMonthsUptoSaid : Prop := paschalMonthsUptoRow.holds Tryd.pinned (OpenSpec.upto paschalMonthsSpec)

/-- 'computuslaw10.EasterMatchesReference', WHERE WHAT IT READS IS OF BULK AT MOST 1048576: true; the input reads as it did. -/
def easterMatchesReferenceUptoRow : OpenClaim := { program := "ytliomdnglhjfaaadoor", sum := "2a44f0329b95f1b00bb2f3a649b1d771680f8f3cf854dc155ad3fe28119583a2", func := "computus/computuslaw10.EasterMatchesReference", spec := "easterMatchesReference", unfollowed := true, recurses := true, named := ["computus/julian.lengths", "computus/label.lengths", "computus/label.spans"], apart := false, laid := [("computus/julian.lengths", laid_computus_julian_lengths), ("computus/label.lengths", laid_computus_label_lengths), ("computus/label.spans", laid_computus_label_spans)], narrowed := true }
def EasterMatchesReferenceUptoSaid : Prop := easterMatchesReferenceUptoRow.holds Tryd.pinned (OpenSpec.upto easterMatchesReferenceSpec)

/-- 'computuslaw10.EasterIsSunday', WHERE WHAT IT READS IS OF BULK AT MOST 1048576: true; the input reads as it did. -/
def easterIsSundayUptoRow : OpenClaim := { program := "ytliomdnglhjfaaadoor", sum := "2a44f0329b95f1b00bb2f3a649b1d771680f8f3cf854dc155ad3fe28119583a2", func := "computus/computuslaw10.EasterIsSunday", spec := "easterIsSunday", unfollowed := true, recurses := true, named := ["computus/julian.lengths", "computus/label.lengths", "computus/label.spans"], apart := false, laid := [("computus/julian.lengths", laid_computus_julian_lengths), ("computus/label.lengths", laid_computus_label_lengths), ("computus/label.spans", laid_computus_label_spans)], narrowed := true }
def EasterIsSundayUptoSaid : Prop := easterIsSundayUptoRow.holds Tryd.pinned (OpenSpec.upto easterIsSundaySpec)

/-- 'computuslaw10.EasterOffsets', WHERE WHAT IT READS IS OF BULK AT MOST 1048576: true; the input reads as it did. -/
def easterOffsetsUptoRow : OpenClaim := { program := "ytliomdnglhjfaaadoor", sum := "2a44f0329b95f1b00bb2f3a649b1d771680f8f3cf854dc155ad3fe28119583a2", func := "computus/computuslaw10.EasterOffsets", spec := "easterOffsets", unfollowed := true, recurses := true, named := ["computus/julian.lengths", "computus/label.lengths", "computus/label.spans"], apart := false, laid := [("computus/julian.lengths", laid_computus_julian_lengths), ("computus/label.lengths", laid_computus_label_lengths), ("computus/label.spans", laid_computus_label_spans)], narrowed := true }
def EasterOffsetsUptoSaid : Prop := easterOffsetsUptoRow.holds Tryd.pinned (OpenSpec.upto easterOffsetsSpec)

/-- 'computuslaw10.EasterNextYear', WHERE WHAT IT READS IS OF BULK AT MOST 1048576: true; the input reads as it did. -/
def easterNextYearUptoRow : OpenClaim := { program := "ytliomdnglhjfaaadoor", sum := "2a44f0329b95f1b00bb2f3a649b1d771680f8f3cf854dc155ad3fe28119583a2", func := "computus/computuslaw10.EasterNextYear", spec := "easterNextYear", unfollowed := true, recurses := true, named := ["computus/julian.lengths", "computus/label.lengths", "computus/label.spans"], apart := false, laid := [("computus/julian.lengths", laid_computus_julian_lengths), ("computus/label.lengths", laid_computus_label_lengths), ("computus/label.spans", laid_computus_label_spans)], narrowed := true }
def EasterNextYearUptoSaid : Prop := easterNextYearUptoRow.holds Tryd.pinned (OpenSpec.upto easterNextYearSpec)

/-- 'computuslaw11.GaussAgrees', WHERE WHAT IT READS IS OF BULK AT MOST 1048576: true; the input reads as it did. -/
def gaussAgreesUptoRow : OpenClaim := { program := "ytliomdnglhjfaaadoor", sum := "2a44f0329b95f1b00bb2f3a649b1d771680f8f3cf854dc155ad3fe28119583a2", func := "computus/computuslaw11.GaussAgrees", spec := "gaussAgrees", unfollowed := true, recurses := true, named := ["computus/julian.lengths", "computus/label.lengths", "computus/label.spans"], apart := false, laid := [("computus/julian.lengths", laid_computus_julian_lengths), ("computus/label.lengths", laid_computus_label_lengths), ("computus/label.spans", laid_computus_label_spans)], narrowed := true }
def GaussAgreesUptoSaid : Prop := gaussAgreesUptoRow.holds Tryd.pinned (OpenSpec.upto gaussAgreesSpec)

/-- 'computuslaw13.OrthodoxMatchesReference', WHERE WHAT IT READS IS OF BULK AT MOST 1048576: true; the input reads as it did. -/
def orthodoxMatchesReferenceUptoRow : OpenClaim := { program := "ytliomdnglhjfaaadoor", sum := "2a44f0329b95f1b00bb2f3a649b1d771680f8f3cf854dc155ad3fe28119583a2", func := "computus/computuslaw13.OrthodoxMatchesReference", spec := "orthodoxMatchesReference", unfollowed := true, recurses := true, named := ["computus/julian.lengths", "computus/label.lengths", "computus/label.spans"], apart := false, laid := [("computus/julian.lengths", laid_computus_julian_lengths), ("computus/label.lengths", laid_computus_label_lengths), ("computus/label.spans", laid_computus_label_spans)], narrowed := true }
def OrthodoxMatchesReferenceUptoSaid : Prop := orthodoxMatchesReferenceUptoRow.holds Tryd.pinned (OpenSpec.upto orthodoxMatchesReferenceSpec)

/-- 'computuslaw13.OrthodoxIsSameDay', WHERE WHAT IT READS IS OF BULK AT MOST 1048576: true; the input reads as it did. -/
def orthodoxIsSameDayUptoRow : OpenClaim := { program := "ytliomdnglhjfaaadoor", sum := "2a44f0329b95f1b00bb2f3a649b1d771680f8f3cf854dc155ad3fe28119583a2", func := "computus/computuslaw13.OrthodoxIsSameDay", spec := "orthodoxIsSameDay", unfollowed := true, recurses := true, named := ["computus/julian.lengths", "computus/label.lengths", "computus/label.spans"], apart := false, laid := [("computus/julian.lengths", laid_computus_julian_lengths), ("computus/label.lengths", laid_computus_label_lengths), ("computus/label.spans", laid_computus_label_spans)], narrowed := true }
def OrthodoxIsSameDayUptoSaid : Prop := orthodoxIsSameDayUptoRow.holds Tryd.pinned (OpenSpec.upto orthodoxIsSameDaySpec)

/-- 'computuslaw13.OrthodoxGap', WHERE WHAT IT READS IS OF BULK AT MOST 1048576: true; the input reads as it did. -/
def orthodoxGapUptoRow : OpenClaim := { program := "ytliomdnglhjfaaadoor", sum := "2a44f0329b95f1b00bb2f3a649b1d771680f8f3cf854dc155ad3fe28119583a2", func := "computus/computuslaw13.OrthodoxGap", spec := "orthodoxGap", unfollowed := true, recurses := true, named := ["computus/julian.lengths", "computus/label.lengths", "computus/label.spans"], apart := false, laid := [("computus/julian.lengths", laid_computus_julian_lengths), ("computus/label.lengths", laid_computus_label_lengths), ("computus/label.spans", laid_computus_label_spans)], narrowed := true }
def OrthodoxGapUptoSaid : Prop := orthodoxGapUptoRow.holds Tryd.pinned (OpenSpec.upto orthodoxGapSpec)

/-- 'computuslaw13.OrthodoxDelay', WHERE WHAT IT READS IS OF BULK AT MOST 1048576: true; the input reads as it did. -/
def orthodoxDelayUptoRow : OpenClaim := { program := "ytliomdnglhjfaaadoor", sum := "2a44f0329b95f1b00bb2f3a649b1d771680f8f3cf854dc155ad3fe28119583a2", func := "computus/computuslaw13.OrthodoxDelay", spec := "orthodoxDelay", unfollowed := true, recurses := true, named := ["computus/julian.lengths", "computus/label.lengths", "computus/label.spans"], apart := false, laid := [("computus/julian.lengths", laid_computus_julian_lengths), ("computus/label.lengths", laid_computus_label_lengths), ("computus/label.spans", laid_computus_label_spans)], narrowed := true }
def OrthodoxDelayUptoSaid : Prop := orthodoxDelayUptoRow.holds Tryd.pinned (OpenSpec.upto orthodoxDelaySpec)

/-- 'computuslaw13.OrthodoxCentury', WHERE WHAT IT READS IS OF BULK AT MOST 1048576: true; the input reads as it did. -/
def orthodoxCenturyUptoRow : OpenClaim := { program := "ytliomdnglhjfaaadoor", sum := "2a44f0329b95f1b00bb2f3a649b1d771680f8f3cf854dc155ad3fe28119583a2", func := "computus/computuslaw13.OrthodoxCentury", spec := "orthodoxCentury", unfollowed := true, recurses := true, named := ["computus/julian.lengths", "computus/label.lengths", "computus/label.spans"], apart := false, laid := [("computus/julian.lengths", laid_computus_julian_lengths), ("computus/label.lengths", laid_computus_label_lengths), ("computus/label.spans", laid_computus_label_spans)], narrowed := true }
def OrthodoxCenturyUptoSaid : Prop := orthodoxCenturyUptoRow.holds Tryd.pinned (OpenSpec.upto orthodoxCenturySpec)

/-- 'computuslaw12.ButcherAgrees', WHERE WHAT IT READS IS OF BULK AT MOST 1048576: true; the input reads as it did. -/
def butcherAgreesUptoRow : OpenClaim := { program := "ytliomdnglhjfaaadoor", sum := "2a44f0329b95f1b00bb2f3a649b1d771680f8f3cf854dc155ad3fe28119583a2", func := "computus/computuslaw12.ButcherAgrees", spec := "butcherAgrees", unfollowed := true, recurses := true, named := ["computus/julian.lengths", "computus/label.lengths", "computus/label.spans"], apart := false, laid := [("computus/julian.lengths", laid_computus_julian_lengths), ("computus/label.lengths", laid_computus_label_lengths), ("computus/label.spans", laid_computus_label_spans)], narrowed := true }
def ButcherAgreesUptoSaid : Prop := butcherAgreesUptoRow.holds Tryd.pinned (OpenSpec.upto butcherAgreesSpec)

end Rows
end Go.Proofs.YtliomdnglhjfaaaDoor

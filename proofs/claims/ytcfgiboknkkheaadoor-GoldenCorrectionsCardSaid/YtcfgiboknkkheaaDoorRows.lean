/-
  NARROWER THAN 'FOR EVERY INPUT', by the rows' own cells (each row's printed sentence says how): CivilYears: laid · CivilOrder: laid · CivilShift: laid · GoldenCycle: laid · GoldenCorrections: laid · GoldenLetters: laid · GoldenRepeats: laid · CivilConvert: laid · GoldenMatchesReference: laid · CivilMatchesReference: laid.
  DERIVED. THE GIVEN ROWS OF THIS SEAT. 10 by the template 'for every input the law returns true; each argument reads behind the call as it read before'; 0 by the template 'total and deterministic' (their statements: YtcfgiboknkkheaaDoorTotals.lean).
  GIVEN WITH THE SEED: the statements are not yours to turn. If you find one false, say at which input.
  Laid BY PROGRAM, IN A SANDBOX (cutbox-rows.mjs): the forced cells as the released guide's own fill.sh prints them over the translation a259d863a3fb23ff… (all of the seat's roots in one cut). By AI agents, Wed Nov 11 2026. No macro, syntax, notation, axiom, sorry.
-/
import Derived.Test.YtcfgiboknkkheaaDoorChecked
import GoSem.Claim
import GoSem.ClaimJoined
import GoSem.ClaimMapViews
import Derived.JoinedTies
import Derived.KernelRfl
namespace Go.Proofs.YtcfgiboknkkheaaDoor
/- THE CELL 'sum', in the pinned program and in every row, IS THE sha256 OF THE DUMP (.gsa) THAT YtcfgiboknkkheaaDoorProg.lean LOADS. Nothing in Lean hashes anything: it is a label: what it is worth is what the hold of that sum in a sandbox is worth. -/
noncomputable def Tryd.pinned : Pinned := { name := "ytcfgiboknkkheaadoor", sum := "a259d863a3fb23fffc14b7e1a1ce7dfb47ce798e2453033f7a77ca7e5b4efb92", checked := Tryd.checked }
namespace Rows
def none {H : Type} : Left H := { results := [], args := [] }

/- WHAT THE LISTED PACKAGE-LEVEL VARIABLES READ AS WHEN THE CALL BEGINS. Each datum BY PROGRAM (the guide's laid-datum.mjs) off the statement by which the dump's own 'gosem.cut.vars' lays the variable. In a bare row this is a premise. The card (YtcfgiboknkkheaaDoorCards.lean) ties it to the program's text. -/
def laid_computus_julian_lengths {H : Type} : DataW H := .agg [.lit (.int .i64 31), .lit (.int .i64 28), .lit (.int .i64 31), .lit (.int .i64 30), .lit (.int .i64 31), .lit (.int .i64 30), .lit (.int .i64 31), .lit (.int .i64 31), .lit (.int .i64 30), .lit (.int .i64 31), .lit (.int .i64 30), .lit (.int .i64 31)]

/-- 'computuslaw05.CivilYears': WHATEVER THE INPUT: true; the input reads as it did. -/
def civilYearsSpec : ChangeSpec := { name := "civilYears", fn := fun _ => fun
  | [d1, d2, d3] => { results := [.lit (.bool true)], args := [d1, d2, d3] }
  | _ => none }
def civilYearsRow : OpenClaim := { program := "ytcfgiboknkkheaadoor", sum := "a259d863a3fb23fffc14b7e1a1ce7dfb47ce798e2453033f7a77ca7e5b4efb92", func := "computus/computuslaw05.CivilYears", spec := "civilYears", unfollowed := true, recurses := true, named := ["computus/julian.lengths"], apart := false, laid := [("computus/julian.lengths", laid_computus_julian_lengths)] }
def CivilYearsSaid : Prop := civilYearsRow.holds Tryd.pinned (OpenSpec.ofChange civilYearsSpec)

/-- ITS FALSE NEIGHBOUR: 'it returns false'. Refute it at one input. -/
def civilYearsWrong : ChangeSpec := { name := "civilYears", fn := fun _ => fun
  | [d1, d2, d3] => { results := [.lit (.bool false)], args := [d1, d2, d3] }
  | _ => none }
def CivilYearsWrongFalsely : Prop := civilYearsRow.holds Tryd.pinned (OpenSpec.ofChange civilYearsWrong)

/-- 'computuslaw05.CivilOrder': WHATEVER THE INPUT: true; the input reads as it did. -/
def civilOrderSpec : ChangeSpec := { name := "civilOrder", fn := fun _ => fun
  | [d1, d2, d3] => { results := [.lit (.bool true)], args := [d1, d2, d3] }
  | _ => none }
def civilOrderRow : OpenClaim := { program := "ytcfgiboknkkheaadoor", sum := "a259d863a3fb23fffc14b7e1a1ce7dfb47ce798e2453033f7a77ca7e5b4efb92", func := "computus/computuslaw05.CivilOrder", spec := "civilOrder", unfollowed := true, recurses := true, named := ["computus/julian.lengths"], apart := false, laid := [("computus/julian.lengths", laid_computus_julian_lengths)] }
def CivilOrderSaid : Prop := civilOrderRow.holds Tryd.pinned (OpenSpec.ofChange civilOrderSpec)

/-- ITS FALSE NEIGHBOUR: 'it returns false'. Refute it at one input. -/
def civilOrderWrong : ChangeSpec := { name := "civilOrder", fn := fun _ => fun
  | [d1, d2, d3] => { results := [.lit (.bool false)], args := [d1, d2, d3] }
  | _ => none }
def CivilOrderWrongFalsely : Prop := civilOrderRow.holds Tryd.pinned (OpenSpec.ofChange civilOrderWrong)

/-- 'computuslaw05.CivilShift': WHATEVER THE INPUT: true; the input reads as it did. -/
def civilShiftSpec : ChangeSpec := { name := "civilShift", fn := fun _ => fun
  | [d1, d2, d3, d4] => { results := [.lit (.bool true)], args := [d1, d2, d3, d4] }
  | _ => none }
def civilShiftRow : OpenClaim := { program := "ytcfgiboknkkheaadoor", sum := "a259d863a3fb23fffc14b7e1a1ce7dfb47ce798e2453033f7a77ca7e5b4efb92", func := "computus/computuslaw05.CivilShift", spec := "civilShift", unfollowed := true, recurses := true, named := ["computus/julian.lengths"], apart := false, laid := [("computus/julian.lengths", laid_computus_julian_lengths)] }
def CivilShiftSaid : Prop := civilShiftRow.holds Tryd.pinned (OpenSpec.ofChange civilShiftSpec)

/-- ITS FALSE NEIGHBOUR: 'it returns false'. Refute it at one input. -/
def civilShiftWrong : ChangeSpec := { name := "civilShift", fn := fun _ => fun
  | [d1, d2, d3, d4] => { results := [.lit (.bool false)], args := [d1, d2, d3, d4] }
  | _ => none }
def CivilShiftWrongFalsely : Prop := civilShiftRow.holds Tryd.pinned (OpenSpec.ofChange civilShiftWrong)

/-- 'computuslaw06.GoldenCycle': WHATEVER THE INPUT: true; the input reads as it did. -/
def goldenCycleSpec : ChangeSpec := { name := "goldenCycle", fn := fun _ => fun
  | [d] => { results := [.lit (.bool true)], args := [d] }
  | _ => none }
def goldenCycleRow : OpenClaim := { program := "ytcfgiboknkkheaadoor", sum := "a259d863a3fb23fffc14b7e1a1ce7dfb47ce798e2453033f7a77ca7e5b4efb92", func := "computus/computuslaw06.GoldenCycle", spec := "goldenCycle", unfollowed := true, recurses := true, named := ["computus/julian.lengths"], apart := false, laid := [("computus/julian.lengths", laid_computus_julian_lengths)] }
def GoldenCycleSaid : Prop := goldenCycleRow.holds Tryd.pinned (OpenSpec.ofChange goldenCycleSpec)

/-- ITS FALSE NEIGHBOUR: 'it returns false'. Refute it at one input. -/
def goldenCycleWrong : ChangeSpec := { name := "goldenCycle", fn := fun _ => fun
  | [d] => { results := [.lit (.bool false)], args := [d] }
  | _ => none }
def GoldenCycleWrongFalsely : Prop := goldenCycleRow.holds Tryd.pinned (OpenSpec.ofChange goldenCycleWrong)

/-- 'computuslaw06.GoldenCorrections': WHATEVER THE INPUT: true; the input reads as it did. -/
def goldenCorrectionsSpec : ChangeSpec := { name := "goldenCorrections", fn := fun _ => fun
  | [d] => { results := [.lit (.bool true)], args := [d] }
  | _ => none }
def goldenCorrectionsRow : OpenClaim := { program := "ytcfgiboknkkheaadoor", sum := "a259d863a3fb23fffc14b7e1a1ce7dfb47ce798e2453033f7a77ca7e5b4efb92", func := "computus/computuslaw06.GoldenCorrections", spec := "goldenCorrections", unfollowed := true, recurses := true, named := ["computus/julian.lengths"], apart := false, laid := [("computus/julian.lengths", laid_computus_julian_lengths)] }
def GoldenCorrectionsSaid : Prop := goldenCorrectionsRow.holds Tryd.pinned (OpenSpec.ofChange goldenCorrectionsSpec)

/-- ITS FALSE NEIGHBOUR: 'it returns false'. Refute it at one input. -/
def goldenCorrectionsWrong : ChangeSpec := { name := "goldenCorrections", fn := fun _ => fun
  | [d] => { results := [.lit (.bool false)], args := [d] }
  | _ => none }
def GoldenCorrectionsWrongFalsely : Prop := goldenCorrectionsRow.holds Tryd.pinned (OpenSpec.ofChange goldenCorrectionsWrong)

/-- 'computuslaw06.GoldenLetters': WHATEVER THE INPUT: true; the input reads as it did. -/
def goldenLettersSpec : ChangeSpec := { name := "goldenLetters", fn := fun _ => fun
  | [d1, d2] => { results := [.lit (.bool true)], args := [d1, d2] }
  | _ => none }
def goldenLettersRow : OpenClaim := { program := "ytcfgiboknkkheaadoor", sum := "a259d863a3fb23fffc14b7e1a1ce7dfb47ce798e2453033f7a77ca7e5b4efb92", func := "computus/computuslaw06.GoldenLetters", spec := "goldenLetters", unfollowed := true, recurses := true, named := ["computus/julian.lengths"], apart := false, laid := [("computus/julian.lengths", laid_computus_julian_lengths)] }
def GoldenLettersSaid : Prop := goldenLettersRow.holds Tryd.pinned (OpenSpec.ofChange goldenLettersSpec)

/-- ITS FALSE NEIGHBOUR: 'it returns false'. Refute it at one input. -/
def goldenLettersWrong : ChangeSpec := { name := "goldenLetters", fn := fun _ => fun
  | [d1, d2] => { results := [.lit (.bool false)], args := [d1, d2] }
  | _ => none }
def GoldenLettersWrongFalsely : Prop := goldenLettersRow.holds Tryd.pinned (OpenSpec.ofChange goldenLettersWrong)

/-- 'computuslaw06.GoldenRepeats': WHATEVER THE INPUT: true; the input reads as it did. -/
def goldenRepeatsSpec : ChangeSpec := { name := "goldenRepeats", fn := fun _ => fun
  | [d1, d2] => { results := [.lit (.bool true)], args := [d1, d2] }
  | _ => none }
def goldenRepeatsRow : OpenClaim := { program := "ytcfgiboknkkheaadoor", sum := "a259d863a3fb23fffc14b7e1a1ce7dfb47ce798e2453033f7a77ca7e5b4efb92", func := "computus/computuslaw06.GoldenRepeats", spec := "goldenRepeats", unfollowed := true, recurses := true, named := ["computus/julian.lengths"], apart := false, laid := [("computus/julian.lengths", laid_computus_julian_lengths)] }
def GoldenRepeatsSaid : Prop := goldenRepeatsRow.holds Tryd.pinned (OpenSpec.ofChange goldenRepeatsSpec)

/-- ITS FALSE NEIGHBOUR: 'it returns false'. Refute it at one input. -/
def goldenRepeatsWrong : ChangeSpec := { name := "goldenRepeats", fn := fun _ => fun
  | [d1, d2] => { results := [.lit (.bool false)], args := [d1, d2] }
  | _ => none }
def GoldenRepeatsWrongFalsely : Prop := goldenRepeatsRow.holds Tryd.pinned (OpenSpec.ofChange goldenRepeatsWrong)

/-- 'computuslaw05.CivilConvert': WHATEVER THE INPUT: true; the input reads as it did. -/
def civilConvertSpec : ChangeSpec := { name := "civilConvert", fn := fun _ => fun
  | [d1, d2] => { results := [.lit (.bool true)], args := [d1, d2] }
  | _ => none }
def civilConvertRow : OpenClaim := { program := "ytcfgiboknkkheaadoor", sum := "a259d863a3fb23fffc14b7e1a1ce7dfb47ce798e2453033f7a77ca7e5b4efb92", func := "computus/computuslaw05.CivilConvert", spec := "civilConvert", unfollowed := true, recurses := true, named := ["computus/julian.lengths"], apart := false, laid := [("computus/julian.lengths", laid_computus_julian_lengths)] }
def CivilConvertSaid : Prop := civilConvertRow.holds Tryd.pinned (OpenSpec.ofChange civilConvertSpec)

/-- ITS FALSE NEIGHBOUR: 'it returns false'. Refute it at one input. -/
def civilConvertWrong : ChangeSpec := { name := "civilConvert", fn := fun _ => fun
  | [d1, d2] => { results := [.lit (.bool false)], args := [d1, d2] }
  | _ => none }
def CivilConvertWrongFalsely : Prop := civilConvertRow.holds Tryd.pinned (OpenSpec.ofChange civilConvertWrong)

/-- 'computuslaw06.GoldenMatchesReference': WHATEVER THE INPUT: true; the input reads as it did. -/
def goldenMatchesReferenceSpec : ChangeSpec := { name := "goldenMatchesReference", fn := fun _ => fun
  | [d1, d2] => { results := [.lit (.bool true)], args := [d1, d2] }
  | _ => none }
def goldenMatchesReferenceRow : OpenClaim := { program := "ytcfgiboknkkheaadoor", sum := "a259d863a3fb23fffc14b7e1a1ce7dfb47ce798e2453033f7a77ca7e5b4efb92", func := "computus/computuslaw06.GoldenMatchesReference", spec := "goldenMatchesReference", unfollowed := true, recurses := true, named := ["computus/julian.lengths"], apart := false, laid := [("computus/julian.lengths", laid_computus_julian_lengths)] }
def GoldenMatchesReferenceSaid : Prop := goldenMatchesReferenceRow.holds Tryd.pinned (OpenSpec.ofChange goldenMatchesReferenceSpec)

/-- ITS FALSE NEIGHBOUR: 'it returns false'. Refute it at one input. -/
def goldenMatchesReferenceWrong : ChangeSpec := { name := "goldenMatchesReference", fn := fun _ => fun
  | [d1, d2] => { results := [.lit (.bool false)], args := [d1, d2] }
  | _ => none }
def GoldenMatchesReferenceWrongFalsely : Prop := goldenMatchesReferenceRow.holds Tryd.pinned (OpenSpec.ofChange goldenMatchesReferenceWrong)

/-- 'computuslaw05.CivilMatchesReference': WHATEVER THE INPUT: true; the input reads as it did. -/
def civilMatchesReferenceSpec : ChangeSpec := { name := "civilMatchesReference", fn := fun _ => fun
  | [d1, d2, d3, d4, d5, d6] => { results := [.lit (.bool true)], args := [d1, d2, d3, d4, d5, d6] }
  | _ => none }
def civilMatchesReferenceRow : OpenClaim := { program := "ytcfgiboknkkheaadoor", sum := "a259d863a3fb23fffc14b7e1a1ce7dfb47ce798e2453033f7a77ca7e5b4efb92", func := "computus/computuslaw05.CivilMatchesReference", spec := "civilMatchesReference", unfollowed := true, recurses := true, named := ["computus/julian.lengths"], apart := false, laid := [("computus/julian.lengths", laid_computus_julian_lengths)] }
def CivilMatchesReferenceSaid : Prop := civilMatchesReferenceRow.holds Tryd.pinned (OpenSpec.ofChange civilMatchesReferenceSpec)

/-- ITS FALSE NEIGHBOUR: 'it returns false'. Refute it at one input. -/
def civilMatchesReferenceWrong : ChangeSpec := { name := "civilMatchesReference", fn := fun _ => fun
  | [d1, d2, d3, d4, d5, d6] => { results := [.lit (.bool false)], args := [d1, d2, d3, d4, d5, d6] }
  | _ => none }
def CivilMatchesReferenceWrongFalsely : Prop := civilMatchesReferenceRow.holds Tryd.pinned (OpenSpec.ofChange civilMatchesReferenceWrong)

/- THE SECOND FORM. 'bulk': how many values and letters a reading holds, each counted each time it is reached (what is shared counts as often as it is met; a slice's spare places count too). A statement '..UptoSaid' is the law's where the arguments, and the package variables that the reading takes, are together of bulk at most 1048576: NARROWER than '..Said'. Prove '..Said' where nothing that the law and all that it calls make is longer than what came in: it says more and counts as full. Else prove '..UptoSaid'. A law counts once. -/
mutual
def uptoBulk {H : Type} : DataW H → Nat
  | .lit (.string bytes) => bytes.length + 1
  | .lit _ => 1
  | .nil => 1
  | .ptr d => uptoBulk d + 1
  | .slice elems spare => uptoBulkAll elems + uptoBulkAll spare + 1
  | .agg parts => uptoBulkAll parts + 1
  | .iface _ d => uptoBulk d + 1
  | .map entries => uptoBulkEntries entries + 1
  | .held _ => 1
def uptoBulkAll {H : Type} : List (DataW H) → Nat
  | [] => 0
  | d :: r => uptoBulk d + uptoBulkAll r
def uptoBulkEntries {H : Type} : List (Lit × DataW H) → Nat
  | [] => 0
  | x :: r => uptoBulkEntry x + uptoBulkEntries r
def uptoBulkEntry {H : Type} : Lit × DataW H → Nat
  | (.string bytes, d) => bytes.length + uptoBulk d + 1
  | (_, d) => uptoBulk d + 1
 end
def uptoSmall : (H : Type) → List (DataW H) → Bool := fun _ ds => decide (uptoBulkAll ds ≤ 1048576)
def OpenSpec.upto (s : _root_.Go.ChangeSpec) : _root_.Go.OpenSpec := { _root_.Go.OpenSpec.ofChange s with cond := some uptoSmall }

/-- 'computuslaw05.CivilYears', WHERE WHAT IT READS IS OF BULK AT MOST 1048576: true; the input reads as it did. -/
def civilYearsUptoRow : OpenClaim := { program := "ytcfgiboknkkheaadoor", sum := "a259d863a3fb23fffc14b7e1a1ce7dfb47ce798e2453033f7a77ca7e5b4efb92", func := "computus/computuslaw05.CivilYears", spec := "civilYears", unfollowed := true, recurses := true, named := ["computus/julian.lengths"], apart := false, laid := [("computus/julian.lengths", laid_computus_julian_lengths)], narrowed := true }
def CivilYearsUptoSaid : Prop := civilYearsUptoRow.holds Tryd.pinned (OpenSpec.upto civilYearsSpec)

/-- 'computuslaw05.CivilOrder', WHERE WHAT IT READS IS OF BULK AT MOST 1048576: true; the input reads as it did. -/
def civilOrderUptoRow : OpenClaim := { program := "ytcfgiboknkkheaadoor", sum := "a259d863a3fb23fffc14b7e1a1ce7dfb47ce798e2453033f7a77ca7e5b4efb92", func := "computus/computuslaw05.CivilOrder", spec := "civilOrder", unfollowed := true, recurses := true, named := ["computus/julian.lengths"], apart := false, laid := [("computus/julian.lengths", laid_computus_julian_lengths)], narrowed := true }
def CivilOrderUptoSaid : Prop := civilOrderUptoRow.holds Tryd.pinned (OpenSpec.upto civilOrderSpec)

/-- 'computuslaw05.CivilShift', WHERE WHAT IT READS IS OF BULK AT MOST 1048576: true; the input reads as it did. -/
def civilShiftUptoRow : OpenClaim := { program := "ytcfgiboknkkheaadoor", sum := "a259d863a3fb23fffc14b7e1a1ce7dfb47ce798e2453033f7a77ca7e5b4efb92", func := "computus/computuslaw05.CivilShift", spec := "civilShift", unfollowed := true, recurses := true, named := ["computus/julian.lengths"], apart := false, laid := [("computus/julian.lengths", laid_computus_julian_lengths)], narrowed := true }
def CivilShiftUptoSaid : Prop := civilShiftUptoRow.holds Tryd.pinned (OpenSpec.upto civilShiftSpec)

/-- 'computuslaw06.GoldenCycle', WHERE WHAT IT READS IS OF BULK AT MOST 1048576: true; the input reads as it did. -/
def goldenCycleUptoRow : OpenClaim := { program := "ytcfgiboknkkheaadoor", sum := "a259d863a3fb23fffc14b7e1a1ce7dfb47ce798e2453033f7a77ca7e5b4efb92", func := "computus/computuslaw06.GoldenCycle", spec := "goldenCycle", unfollowed := true, recurses := true, named := ["computus/julian.lengths"], apart := false, laid := [("computus/julian.lengths", laid_computus_julian_lengths)], narrowed := true }
def GoldenCycleUptoSaid : Prop := goldenCycleUptoRow.holds Tryd.pinned (OpenSpec.upto goldenCycleSpec)

/-- 'computuslaw06.GoldenCorrections', WHERE WHAT IT READS IS OF BULK AT MOST 1048576: true; the input reads as it did. -/
def goldenCorrectionsUptoRow : OpenClaim := { program := "ytcfgiboknkkheaadoor", sum := "a259d863a3fb23fffc14b7e1a1ce7dfb47ce798e2453033f7a77ca7e5b4efb92", func := "computus/computuslaw06.GoldenCorrections", spec := "goldenCorrections", unfollowed := true, recurses := true, named := ["computus/julian.lengths"], apart := false, laid := [("computus/julian.lengths", laid_computus_julian_lengths)], narrowed := true }
def GoldenCorrectionsUptoSaid : Prop := goldenCorrectionsUptoRow.holds Tryd.pinned (OpenSpec.upto goldenCorrectionsSpec)

/-- 'computuslaw06.GoldenLetters', WHERE WHAT IT READS IS OF BULK AT MOST 1048576: true; the input reads as it did. -/
def goldenLettersUptoRow : OpenClaim := { program := "ytcfgiboknkkheaadoor", sum := "a259d863a3fb23fffc14b7e1a1ce7dfb47ce798e2453033f7a77ca7e5b4efb92", func := "computus/computuslaw06.GoldenLetters", spec := "goldenLetters", unfollowed := true, recurses := true, named := ["computus/julian.lengths"], apart := false, laid := [("computus/julian.lengths", laid_computus_julian_lengths)], narrowed := true }
def GoldenLettersUptoSaid : Prop := goldenLettersUptoRow.holds Tryd.pinned (OpenSpec.upto goldenLettersSpec)

/-- 'computuslaw06.GoldenRepeats', WHERE WHAT IT READS IS OF BULK AT MOST 1048576: true; the input reads as it did. -/
def goldenRepeatsUptoRow : OpenClaim := { program := "ytcfgiboknkkheaadoor", sum := "a259d863a3fb23fffc14b7e1a1ce7dfb47ce798e2453033f7a77ca7e5b4efb92", func := "computus/computuslaw06.GoldenRepeats", spec := "goldenRepeats", unfollowed := true, recurses := true, named := ["computus/julian.lengths"], apart := false, laid := [("computus/julian.lengths", laid_computus_julian_lengths)], narrowed := true }
def GoldenRepeatsUptoSaid : Prop := goldenRepeatsUptoRow.holds Tryd.pinned (OpenSpec.upto goldenRepeatsSpec)

/-- 'computuslaw05.CivilConvert', WHERE WHAT IT READS IS OF BULK AT MOST 1048576: true; the input reads as it did. -/
def civilConvertUptoRow : OpenClaim := { program := "ytcfgiboknkkheaadoor", sum := "a259d863a3fb23fffc14b7e1a1ce7dfb47ce798e2453033f7a77ca7e5b4efb92", func := "computus/computuslaw05.CivilConvert", spec := "civilConvert", unfollowed := true, recurses := true, named := ["computus/julian.lengths"], apart := false, laid := [("computus/julian.lengths", laid_computus_julian_lengths)], narrowed := true }
def CivilConvertUptoSaid : Prop := civilConvertUptoRow.holds Tryd.pinned (OpenSpec.upto civilConvertSpec)

/-- 'computuslaw06.GoldenMatchesReference', WHERE WHAT IT READS IS OF BULK AT MOST 1048576: true; the input reads as it did. -/
def goldenMatchesReferenceUptoRow : OpenClaim := { program := "ytcfgiboknkkheaadoor", sum := "a259d863a3fb23fffc14b7e1a1ce7dfb47ce798e2453033f7a77ca7e5b4efb92", func := "computus/computuslaw06.GoldenMatchesReference", spec := "goldenMatchesReference", unfollowed := true, recurses := true, named := ["computus/julian.lengths"], apart := false, laid := [("computus/julian.lengths", laid_computus_julian_lengths)], narrowed := true }
def GoldenMatchesReferenceUptoSaid : Prop := goldenMatchesReferenceUptoRow.holds Tryd.pinned (OpenSpec.upto goldenMatchesReferenceSpec)

/-- 'computuslaw05.CivilMatchesReference', WHERE WHAT IT READS IS OF BULK AT MOST 1048576: true; the input reads as it did. -/
def civilMatchesReferenceUptoRow : OpenClaim := { program := "ytcfgiboknkkheaadoor", sum := "a259d863a3fb23fffc14b7e1a1ce7dfb47ce798e2453033f7a77ca7e5b4efb92", func := "computus/computuslaw05.CivilMatchesReference", spec := "civilMatchesReference", unfollowed := true, recurses := true, named := ["computus/julian.lengths"], apart := false, laid := [("computus/julian.lengths", laid_computus_julian_lengths)], narrowed := true }
def CivilMatchesReferenceUptoSaid : Prop := civilMatchesReferenceUptoRow.holds Tryd.pinned (OpenSpec.upto civilMatchesReferenceSpec)

end Rows
end Go.Proofs.YtcfgiboknkkheaaDoor

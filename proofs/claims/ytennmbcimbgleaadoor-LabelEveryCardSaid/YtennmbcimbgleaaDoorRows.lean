/-
  NARROWER THAN 'FOR EVERY INPUT', by the rows' own cells (each row's printed sentence says how): LabelMatchesReference: laid · LabelDays: laid · LabelLunations: laid · LabelEvery: laid · LabelPaschal: laid.
  DERIVED. THE GIVEN ROWS OF THIS SEAT. 5 by the template 'for every input the law returns true; each argument reads behind the call as it read before'; 0 by the template 'total and deterministic' (their statements: YtennmbcimbgleaaDoorTotals.lean).
  GIVEN WITH THE SEED: the statements are not yours to turn. If you find one false, say at which input.
  Laid BY PROGRAM, IN A SANDBOX (cutbox-rows.mjs): the forced cells as the released guide's own fill.sh prints them over the translation 7d8a582f16fd5ae0… (all of the seat's roots in one cut). By AI agents, Wed Nov 11 2026. No macro, syntax, notation, axiom, sorry.
-/
import Derived.Test.YtennmbcimbgleaaDoorChecked
import GoSem.Claim
import GoSem.ClaimJoined
import GoSem.ClaimMapViews
import Derived.JoinedTies
import Derived.KernelRfl
namespace Go.Proofs.YtennmbcimbgleaaDoor
/- THE CELL 'sum', in the pinned program and in every row, IS THE sha256 OF THE DUMP (.gsa) THAT YtennmbcimbgleaaDoorProg.lean LOADS. Nothing in Lean hashes anything: it is a label: what it is worth is what the hold of that sum in a sandbox is worth. -/
noncomputable def Tryd.pinned : Pinned := { name := "ytennmbcimbgleaadoor", sum := "7d8a582f16fd5ae09a4fc34176d8400b2c38a5349e2733d511e7d95869462a88", checked := Tryd.checked }
namespace Rows
def none {H : Type} : Left H := { results := [], args := [] }

/- WHAT THE LISTED PACKAGE-LEVEL VARIABLES READ AS WHEN THE CALL BEGINS. Each datum BY PROGRAM (the guide's laid-datum.mjs) off the statement by which the dump's own 'gosem.cut.vars' lays the variable. In a bare row this is a premise. The card (YtennmbcimbgleaaDoorCards.lean) ties it to the program's text. -/
def laid_computus_label_lengths {H : Type} : DataW H := .agg [.lit (.int .i64 31), .lit (.int .i64 28), .lit (.int .i64 31), .lit (.int .i64 30), .lit (.int .i64 31), .lit (.int .i64 30), .lit (.int .i64 31), .lit (.int .i64 31), .lit (.int .i64 30), .lit (.int .i64 31), .lit (.int .i64 30), .lit (.int .i64 31)]
def laid_computus_label_spans {H : Type} : DataW H := .agg [.lit (.int .i64 30), .lit (.int .i64 29), .lit (.int .i64 30), .lit (.int .i64 29), .lit (.int .i64 30), .lit (.int .i64 29), .lit (.int .i64 30), .lit (.int .i64 29), .lit (.int .i64 30), .lit (.int .i64 29), .lit (.int .i64 30), .lit (.int .i64 29)]

/-- 'computuslaw08.LabelMatchesReference': WHATEVER THE INPUT: true; the input reads as it did. -/
def labelMatchesReferenceSpec : ChangeSpec := { name := "labelMatchesReference", fn := fun _ => fun
  | [d1, d2, d3] => { results := [.lit (.bool true)], args := [d1, d2, d3] }
  | _ => none }
def labelMatchesReferenceRow : OpenClaim := { program := "ytennmbcimbgleaadoor", sum := "7d8a582f16fd5ae09a4fc34176d8400b2c38a5349e2733d511e7d95869462a88", func := "computus/computuslaw08.LabelMatchesReference", spec := "labelMatchesReference", unfollowed := true, recurses := true, named := ["computus/label.lengths", "computus/label.spans"], apart := false, laid := [("computus/label.lengths", laid_computus_label_lengths), ("computus/label.spans", laid_computus_label_spans)] }
def LabelMatchesReferenceSaid : Prop := labelMatchesReferenceRow.holds Tryd.pinned (OpenSpec.ofChange labelMatchesReferenceSpec)

/-- ITS FALSE NEIGHBOUR: 'it returns false'. Refute it at one input. -/
def labelMatchesReferenceWrong : ChangeSpec := { name := "labelMatchesReference", fn := fun _ => fun
  | [d1, d2, d3] => { results := [.lit (.bool false)], args := [d1, d2, d3] }
  | _ => none }
def LabelMatchesReferenceWrongFalsely : Prop := labelMatchesReferenceRow.holds Tryd.pinned (OpenSpec.ofChange labelMatchesReferenceWrong)

/-- 'computuslaw08.LabelDays': WHATEVER THE INPUT: true; the input reads as it did. -/
def labelDaysSpec : ChangeSpec := { name := "labelDays", fn := fun _ => fun
  | [d] => { results := [.lit (.bool true)], args := [d] }
  | _ => none }
def labelDaysRow : OpenClaim := { program := "ytennmbcimbgleaadoor", sum := "7d8a582f16fd5ae09a4fc34176d8400b2c38a5349e2733d511e7d95869462a88", func := "computus/computuslaw08.LabelDays", spec := "labelDays", unfollowed := true, recurses := true, named := ["computus/label.lengths", "computus/label.spans"], apart := false, laid := [("computus/label.lengths", laid_computus_label_lengths), ("computus/label.spans", laid_computus_label_spans)] }
def LabelDaysSaid : Prop := labelDaysRow.holds Tryd.pinned (OpenSpec.ofChange labelDaysSpec)

/-- ITS FALSE NEIGHBOUR: 'it returns false'. Refute it at one input. -/
def labelDaysWrong : ChangeSpec := { name := "labelDays", fn := fun _ => fun
  | [d] => { results := [.lit (.bool false)], args := [d] }
  | _ => none }
def LabelDaysWrongFalsely : Prop := labelDaysRow.holds Tryd.pinned (OpenSpec.ofChange labelDaysWrong)

/-- 'computuslaw08.LabelLunations': WHATEVER THE INPUT: true; the input reads as it did. -/
def labelLunationsSpec : ChangeSpec := { name := "labelLunations", fn := fun _ => fun
  | [d] => { results := [.lit (.bool true)], args := [d] }
  | _ => none }
def labelLunationsRow : OpenClaim := { program := "ytennmbcimbgleaadoor", sum := "7d8a582f16fd5ae09a4fc34176d8400b2c38a5349e2733d511e7d95869462a88", func := "computus/computuslaw08.LabelLunations", spec := "labelLunations", unfollowed := true, recurses := true, named := ["computus/label.lengths", "computus/label.spans"], apart := false, laid := [("computus/label.lengths", laid_computus_label_lengths), ("computus/label.spans", laid_computus_label_spans)] }
def LabelLunationsSaid : Prop := labelLunationsRow.holds Tryd.pinned (OpenSpec.ofChange labelLunationsSpec)

/-- ITS FALSE NEIGHBOUR: 'it returns false'. Refute it at one input. -/
def labelLunationsWrong : ChangeSpec := { name := "labelLunations", fn := fun _ => fun
  | [d] => { results := [.lit (.bool false)], args := [d] }
  | _ => none }
def LabelLunationsWrongFalsely : Prop := labelLunationsRow.holds Tryd.pinned (OpenSpec.ofChange labelLunationsWrong)

/-- 'computuslaw08.LabelEvery': WHATEVER THE INPUT: true; the input reads as it did. -/
def labelEverySpec : ChangeSpec := { name := "labelEvery", fn := fun _ => fun
  | [d1, d2] => { results := [.lit (.bool true)], args := [d1, d2] }
  | _ => none }
def labelEveryRow : OpenClaim := { program := "ytennmbcimbgleaadoor", sum := "7d8a582f16fd5ae09a4fc34176d8400b2c38a5349e2733d511e7d95869462a88", func := "computus/computuslaw08.LabelEvery", spec := "labelEvery", unfollowed := true, recurses := true, named := ["computus/label.lengths", "computus/label.spans"], apart := false, laid := [("computus/label.lengths", laid_computus_label_lengths), ("computus/label.spans", laid_computus_label_spans)] }
def LabelEverySaid : Prop := labelEveryRow.holds Tryd.pinned (OpenSpec.ofChange labelEverySpec)

/-- ITS FALSE NEIGHBOUR: 'it returns false'. Refute it at one input. -/
def labelEveryWrong : ChangeSpec := { name := "labelEvery", fn := fun _ => fun
  | [d1, d2] => { results := [.lit (.bool false)], args := [d1, d2] }
  | _ => none }
def LabelEveryWrongFalsely : Prop := labelEveryRow.holds Tryd.pinned (OpenSpec.ofChange labelEveryWrong)

/-- 'computuslaw08.LabelPaschal': WHATEVER THE INPUT: true; the input reads as it did. -/
def labelPaschalSpec : ChangeSpec := { name := "labelPaschal", fn := fun _ => fun
  | [d] => { results := [.lit (.bool true)], args := [d] }
  | _ => none }
def labelPaschalRow : OpenClaim := { program := "ytennmbcimbgleaadoor", sum := "7d8a582f16fd5ae09a4fc34176d8400b2c38a5349e2733d511e7d95869462a88", func := "computus/computuslaw08.LabelPaschal", spec := "labelPaschal", unfollowed := true, recurses := true, named := ["computus/label.lengths", "computus/label.spans"], apart := false, laid := [("computus/label.lengths", laid_computus_label_lengths), ("computus/label.spans", laid_computus_label_spans)] }
def LabelPaschalSaid : Prop := labelPaschalRow.holds Tryd.pinned (OpenSpec.ofChange labelPaschalSpec)

/-- ITS FALSE NEIGHBOUR: 'it returns false'. Refute it at one input. -/
def labelPaschalWrong : ChangeSpec := { name := "labelPaschal", fn := fun _ => fun
  | [d] => { results := [.lit (.bool false)], args := [d] }
  | _ => none }
def LabelPaschalWrongFalsely : Prop := labelPaschalRow.holds Tryd.pinned (OpenSpec.ofChange labelPaschalWrong)

/- THE SECOND FORM. 'bulk': how many values and letters a reading holds, each counted each time it is reached (what is shared counts as often as it is met; a slice's spare places count too). A statement '..UptoSaid' is the law's where the arguments, and the package variables that the reading takes, are together of bulk at most 1048576: NARROWER than '..Said'. Prove '..Said' where nothing that the law and all that it calls make is longer than what came in: it says more and counts as full. Else prove '..UptoSaid'. A law counts once. -/
mutual
def uptoBulk {H : Type} : DataW H → Nat
  | .lit (.string bytes) => bytes.length + 1
  | .lit _ => 1
  | .nil => 1
  | .ptr d => uptoBulk d + 1
  | .slice elems spare => uptoBulkAll elems + uptoBulkAll spare + 1
  | .agg parts => uptoBulkAll parts + 1
  | .iface _ d => uptoBulk d + 1
  | .map entries => uptoBulkEntries entries + 1
  | .held _ => 1
def uptoBulkAll {H : Type} : List (DataW H) → Nat
  | [] => 0
  | d :: r => uptoBulk d + uptoBulkAll r
def uptoBulkEntries {H : Type} : List (Lit × DataW H) → Nat
  | [] => 0
  | x :: r => uptoBulkEntry x + uptoBulkEntries r
def uptoBulkEntry {H : Type} : Lit × DataW H → Nat
  | (.string bytes, d) => bytes.length + uptoBulk d + 1
  | (_, d) => uptoBulk d + 1
 end
def uptoSmall : (H : Type) → List (DataW H) → Bool := fun _ ds => decide (uptoBulkAll ds ≤ 1048576)
def OpenSpec.upto (s : _root_.Go.ChangeSpec) : _root_.Go.OpenSpec := { _root_.Go.OpenSpec.ofChange s with cond := some uptoSmall }

/-- 'computuslaw08.LabelMatchesReference', WHERE WHAT IT READS IS OF BULK AT MOST 1048576: true; the input reads as it did. -/
def labelMatchesReferenceUptoRow : OpenClaim := { program := "ytennmbcimbgleaadoor", sum := "7d8a582f16fd5ae09a4fc34176d8400b2c38a5349e2733d511e7d95869462a88", func := "computus/computuslaw08.LabelMatchesReference", spec := "labelMatchesReference", unfollowed := true, recurses := true, named := ["computus/label.lengths", "computus/label.spans"], apart := false, laid := [("computus/label.lengths", laid_computus_label_lengths), ("computus/label.spans", laid_computus_label_spans)], narrowed := true }
def LabelMatchesReferenceUptoSaid : Prop := labelMatchesReferenceUptoRow.holds Tryd.pinned (OpenSpec.upto labelMatchesReferenceSpec)

/-- 'computuslaw08.LabelDays', WHERE WHAT IT READS IS OF BULK AT MOST 1048576: true; the input reads as it did. -/
def labelDaysUptoRow : OpenClaim := { program := "ytennmbcimbgleaadoor", sum := "7d8a582f16fd5ae09a4fc34176d8400b2c38a5349e2733d511e7d95869462a88", func := "computus/computuslaw08.LabelDays", spec := "labelDays", unfollowed := true, recurses := true, named := ["computus/label.lengths", "computus/label.spans"], apart := false, laid := [("computus/label.lengths", laid_computus_label_lengths), ("computus/label.spans", laid_computus_label_spans)], narrowed := true }
def LabelDaysUptoSaid : Prop := labelDaysUptoRow.holds Tryd.pinned (OpenSpec.upto labelDaysSpec)

/-- 'computuslaw08.LabelLunations', WHERE WHAT IT READS IS OF BULK AT MOST 1048576: true; the input reads as it did. -/
def labelLunationsUptoRow : OpenClaim := { program := "ytennmbcimbgleaadoor", sum := "7d8a582f16fd5ae09a4fc34176d8400b2c38a5349e2733d511e7d95869462a88", func := "computus/computuslaw08.LabelLunations", spec := "labelLunations", unfollowed := true, recurses := true, named := ["computus/label.lengths", "computus/label.spans"], apart := false, laid := [("computus/label.lengths", laid_computus_label_lengths), ("computus/label.spans", laid_computus_label_spans)], narrowed := true }
def LabelLunationsUptoSaid : Prop := labelLunationsUptoRow.holds Tryd.pinned (OpenSpec.upto labelLunationsSpec)

/-- 'computuslaw08.LabelEvery', WHERE WHAT IT READS IS OF BULK AT MOST 1048576: true; the input reads as it did. -/
def labelEveryUptoRow : OpenClaim := { program := "ytennmbcimbgleaadoor", sum := "7d8a582f16fd5ae09a4fc34176d8400b2c38a5349e2733d511e7d95869462a88", func := "computus/computuslaw08.LabelEvery", spec := "labelEvery", unfollowed := true, recurses := true, named := ["computus/label.lengths", "computus/label.spans"], apart := false, laid := [("computus/label.lengths", laid_computus_label_lengths), ("computus/label.spans", laid_computus_label_spans)], narrowed := true }
def LabelEveryUptoSaid : Prop := labelEveryUptoRow.holds Tryd.pinned (OpenSpec.upto labelEverySpec)

/-- 'computuslaw08.LabelPaschal', WHERE WHAT IT READS IS OF BULK AT MOST 1048576: true; the input reads as it did. -/
def labelPaschalUptoRow : OpenClaim := { program := "ytennmbcimbgleaadoor", sum := "7d8a582f16fd5ae09a4fc34176d8400b2c38a5349e2733d511e7d95869462a88", func := "computus/computuslaw08.LabelPaschal", spec := "labelPaschal", unfollowed := true, recurses := true, named := ["computus/label.lengths", "computus/label.spans"], apart := false, laid := [("computus/label.lengths", laid_computus_label_lengths), ("computus/label.spans", laid_computus_label_spans)], narrowed := true }
def LabelPaschalUptoSaid : Prop := labelPaschalUptoRow.holds Tryd.pinned (OpenSpec.upto labelPaschalSpec)

end Rows
end Go.Proofs.YtennmbcimbgleaaDoor

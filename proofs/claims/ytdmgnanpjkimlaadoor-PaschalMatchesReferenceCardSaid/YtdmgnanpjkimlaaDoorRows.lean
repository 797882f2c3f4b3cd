/-
  NARROWER THAN 'FOR EVERY INPUT', by the rows' own cells (each row's printed sentence says how): PaschalMatchesReference: laid.
  DERIVED. THE GIVEN ROWS OF THIS SEAT. 1 by the template 'for every input the law returns true; each argument reads behind the call as it read before'; 0 by the template 'total and deterministic' (their statements: YtdmgnanpjkimlaaDoorTotals.lean).
  GIVEN WITH THE SEED: the statements are not yours to turn. If you find one false, say at which input.
  Laid BY PROGRAM, IN A SANDBOX (cutbox-rows.mjs): the forced cells as the released guide's own fill.sh prints them over the translation 13d578e86b7dede5… (all of the seat's roots in one cut). By AI agents, Wed Nov 11 2026. No macro, syntax, notation, axiom, sorry.
-/
import Derived.Test.YtdmgnanpjkimlaaDoorChecked
import GoSem.Claim
import GoSem.ClaimJoined
import GoSem.ClaimMapViews
import Derived.JoinedTies
import Derived.KernelRfl
namespace Go.Proofs.YtdmgnanpjkimlaaDoor
/- THE CELL 'sum', in the pinned program and in every row, IS THE sha256 OF THE DUMP (.gsa) THAT YtdmgnanpjkimlaaDoorProg.lean LOADS. Nothing in Lean hashes anything: it is a label: what it is worth is what the hold of that sum in a sandbox is worth. -/
noncomputable def Tryd.pinned : Pinned := { name := "ytdmgnanpjkimlaadoor", sum := "13d578e86b7dede57a3cc7b5edd49fbc56253fb165eb06b7c1e5e0518c1b41a9", checked := Tryd.checked }
namespace Rows
def none {H : Type} : Left H := { results := [], args := [] }

/- WHAT THE LISTED PACKAGE-LEVEL VARIABLES READ AS WHEN THE CALL BEGINS. Each datum BY PROGRAM (the guide's laid-datum.mjs) off the statement by which the dump's own 'gosem.cut.vars' lays the variable. In a bare row this is a premise. The card (YtdmgnanpjkimlaaDoorCards.lean) ties it to the program's text. -/
def laid_computus_julian_lengths {H : Type} : DataW H := .agg [.lit (.int .i64 31), .lit (.int .i64 28), .lit (.int .i64 31), .lit (.int .i64 30), .lit (.int .i64 31), .lit (.int .i64 30), .lit (.int .i64 31), .lit (.int .i64 31), .lit (.int .i64 30), .lit (.int .i64 31), .lit (.int .i64 30), .lit (.int .i64 31)]
def laid_computus_label_lengths {H : Type} : DataW H := .agg [.lit (.int .i64 31), .lit (.int .i64 28), .lit (.int .i64 31), .lit (.int .i64 30), .lit (.int .i64 31), .lit (.int .i64 30), .lit (.int .i64 31), .lit (.int .i64 31), .lit (.int .i64 30), .lit (.int .i64 31), .lit (.int .i64 30), .lit (.int .i64 31)]
def laid_computus_label_spans {H : Type} : DataW H := .agg [.lit (.int .i64 30), .lit (.int .i64 29), .lit (.int .i64 30), .lit (.int .i64 29), .lit (.int .i64 30), .lit (.int .i64 29), .lit (.int .i64 30), .lit (.int .i64 29), .lit (.int .i64 30), .lit (.int .i64 29), .lit (.int .i64 30), .lit (.int .i64 29)]

/-- 'computuslaw09.PaschalMatchesReference': WHATEVER THE INPUT: true; the input reads as it did. -/
def paschalMatchesReferenceSpec : ChangeSpec := { name := "paschalMatchesReference", fn := fun _ => fun
  | [d1, d2, d3] => { results := [.lit (.bool true)], args := [d1, d2, d3] }
  | _ => none }
def paschalMatchesReferenceRow : OpenClaim := { program := "ytdmgnanpjkimlaadoor", sum := "13d578e86b7dede57a3cc7b5edd49fbc56253fb165eb06b7c1e5e0518c1b41a9", func := "computus/computuslaw09.PaschalMatchesReference", spec := "paschalMatchesReference", unfollowed := true, recurses := true, named := ["computus/julian.lengths", "computus/label.lengths", "computus/label.spans"], apart := false, laid := [("computus/julian.lengths", laid_computus_julian_lengths), ("computus/label.lengths", laid_computus_label_lengths), ("computus/label.spans", laid_computus_label_spans)] }
def PaschalMatchesReferenceSaid : Prop := paschalMatchesReferenceRow.holds Tryd.pinned (OpenSpec.ofChange paschalMatchesReferenceSpec)

/-- ITS FALSE NEIGHBOUR: 'it returns false'. Refute it at one input. -/
def paschalMatchesReferenceWrong : ChangeSpec := { name := "paschalMatchesReference", fn := fun _ => fun
  | [d1, d2, d3] => { results := [.lit (.bool false)], args := [d1, d2, d3] }
  | _ => none }
def PaschalMatchesReferenceWrongFalsely : Prop := paschalMatchesReferenceRow.holds Tryd.pinned (OpenSpec.ofChange paschalMatchesReferenceWrong)

/- THE SECOND FORM. 'bulk': how many values and letters a reading holds, each counted each time it is reached (what is shared counts as often as it is met; a slice's spare places count too). A statement '..UptoSaid' is the law's where the arguments, and the package variables that the reading takes, are together of bulk at most 1048576: NARROWER than '..Said'. Prove '..Said' where nothing that the law and all that it calls make is longer than what came in: it says more and counts as full. Else prove '..UptoSaid'. A law counts once. -/
mutual
def uptoBulk {H : Type} : DataW H → Nat
  | .lit (.string bytes) => bytes.length + 1
  | .lit _ => 1
  | .nil => 1
  | .ptr d => uptoBulk d + 1
  | .slice elems spare => uptoBulkAll elems + uptoBulkAll spare + 1
  | .agg parts => uptoBulkAll parts + 1
  | .iface _ d => uptoBulk d + 1
  | .map entries => uptoBulkEntries entries + 1
  | .held _ => 1
def uptoBulkAll {H : Type} : List (DataW H) → Nat
  | [] => 0
  | d :: r => uptoBulk d + uptoBulkAll r
def uptoBulkEntries {H : Type} : List (Lit × DataW H) → Nat
  | [] => 0
  | x :: r => uptoBulkEntry x + uptoBulkEntries r
def uptoBulkEntry {H : Type} : Lit × DataW H → Nat
  | (.string bytes, d) => bytes.length + uptoBulk d + 1
  | (_, d) => uptoBulk d + 1
 end
def uptoSmall : (H : Type) → List (DataW H) → Bool := fun _ ds => decide (uptoBulkAll ds ≤ 1048576)
def OpenSpec.upto (s : _root_.Go.ChangeSpec) : _root_.Go.OpenSpec := { _root_.Go.OpenSpec.ofChange s with cond := some uptoSmall }

/-- 'computuslaw09.PaschalMatchesReference', WHERE WHAT IT READS IS OF BULK AT MOST 1048576: true; the input reads as it did. -/
def paschalMatchesReferenceUptoRow : OpenClaim := { program := "ytdmgnanpjkimlaadoor", sum := "13d578e86b7dede57a3cc7b5edd49fbc56253fb165eb06b7c1e5e0518c1b41a9", func := "computus/computuslaw09.PaschalMatchesReference", spec := "paschalMatchesReference", unfollowed := true, recurses := true, named := ["computus/julian.lengths", "computus/label.lengths", "computus/label.spans"], apart := false, laid := [("computus/julian.lengths", laid_computus_julian_lengths), ("computus/label.lengths", laid_computus_label_lengths), ("computus/label.spans", laid_computus_label_spans)], narrowed := true }
def PaschalMatchesReferenceUptoSaid : Prop := paschalMatchesReferenceUptoRow.holds Tryd.pinned (OpenSpec.upto paschalMatchesReferenceSpec)

end Rows
end Go.Proofs.YtdmgnanpjkimlaaDoor

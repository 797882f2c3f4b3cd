/-
  No cell of these rows narrows 'for every input' (looked for: loops, veiled, ifaces, maps, wideKeys, modest, calm, conditions, laid).
  DERIVED. THE GIVEN ROWS OF THIS SEAT. 5 by the template 'for every input the law returns true; each argument reads behind the call as it read before'; 0 by the template 'total and deterministic' (their statements: YtffjbekbjbomaaaTotals.lean).
  GIVEN WITH THE SEED: the statements are not yours to turn. If you find one false, say at which input.
  Laid BY PROGRAM, IN A SANDBOX (cutbox-rows.mjs): the forced cells as the released guide's own fill.sh prints them over the translation 3b7b70f2c6a0d1f8… (all of the seat's roots in one cut). By AI agents, Wed Nov 11 2026. No macro, syntax, notation, axiom, sorry.
-/
import Derived.Test.YtffjbekbjbomaaaChecked
import GoSem.Claim
import GoSem.ClaimJoined
import GoSem.ClaimMapViews
import Derived.JoinedTies
import Derived.KernelRfl
namespace Go.Proofs.Ytffjbekbjbomaaa
/- THE CELL 'sum', in the pinned program and in every row, IS THE sha256 OF THE DUMP (.gsa) THAT YtffjbekbjbomaaaProg.lean LOADS. Nothing in Lean hashes anything: it is a label: what it is worth is what the hold of that sum in a sandbox is worth. -/
noncomputable def Try.pinned : Pinned := { name := "ytffjbekbjbomaaa", sum := "3b7b70f2c6a0d1f8c8d57451005e1d715bcd34e015d02882876c69bfbf675ab2", checked := Try.checked }
namespace Rows
def none {H : Type} : Left H := { results := [], args := [] }

/-- 'computuslaw12.ButcherMatchesReference': WHATEVER THE INPUT: true; the input reads as it did. -/
def butcherMatchesReferenceSpec : ChangeSpec := { name := "butcherMatchesReference", fn := fun _ => fun
  | [d1, d2] => { results := [.lit (.bool true)], args := [d1, d2] }
  | _ => none }
def butcherMatchesReferenceRow : OpenClaim := { program := "ytffjbekbjbomaaa", sum := "3b7b70f2c6a0d1f8c8d57451005e1d715bcd34e015d02882876c69bfbf675ab2", func := "computus/computuslaw12.ButcherMatchesReference", spec := "butcherMatchesReference", unfollowed := true, recurses := true, apart := false }
def ButcherMatchesReferenceSaid : Prop := butcherMatchesReferenceRow.holds Try.pinned (OpenSpec.ofChange butcherMatchesReferenceSpec)

/-- ITS FALSE NEIGHBOUR: 'it returns false'. Refute it at one input. -/
def butcherMatchesReferenceWrong : ChangeSpec := { name := "butcherMatchesReference", fn := fun _ => fun
  | [d1, d2] => { results := [.lit (.bool false)], args := [d1, d2] }
  | _ => none }
def ButcherMatchesReferenceWrongFalsely : Prop := butcherMatchesReferenceRow.holds Try.pinned (OpenSpec.ofChange butcherMatchesReferenceWrong)

/-- 'computuslaw12.ButcherNumbers': WHATEVER THE INPUT: true; the input reads as it did. -/
def butcherNumbersSpec : ChangeSpec := { name := "butcherNumbers", fn := fun _ => fun
  | [d1, d2] => { results := [.lit (.bool true)], args := [d1, d2] }
  | _ => none }
def butcherNumbersRow : OpenClaim := { program := "ytffjbekbjbomaaa", sum := "3b7b70f2c6a0d1f8c8d57451005e1d715bcd34e015d02882876c69bfbf675ab2", func := "computus/computuslaw12.ButcherNumbers", spec := "butcherNumbers", unfollowed := true, recurses := true, apart := false }
def ButcherNumbersSaid : Prop := butcherNumbersRow.holds Try.pinned (OpenSpec.ofChange butcherNumbersSpec)

/-- ITS FALSE NEIGHBOUR: 'it returns false'. Refute it at one input. -/
def butcherNumbersWrong : ChangeSpec := { name := "butcherNumbers", fn := fun _ => fun
  | [d1, d2] => { results := [.lit (.bool false)], args := [d1, d2] }
  | _ => none }
def ButcherNumbersWrongFalsely : Prop := butcherNumbersRow.holds Try.pinned (OpenSpec.ofChange butcherNumbersWrong)

/-- 'computuslaw11.GaussMatchesReference': WHATEVER THE INPUT: true; the input reads as it did. -/
def gaussMatchesReferenceSpec : ChangeSpec := { name := "gaussMatchesReference", fn := fun _ => fun
  | [d1, d2] => { results := [.lit (.bool true)], args := [d1, d2] }
  | _ => none }
def gaussMatchesReferenceRow : OpenClaim := { program := "ytffjbekbjbomaaa", sum := "3b7b70f2c6a0d1f8c8d57451005e1d715bcd34e015d02882876c69bfbf675ab2", func := "computus/computuslaw11.GaussMatchesReference", spec := "gaussMatchesReference", apart := false }
def GaussMatchesReferenceSaid : Prop := gaussMatchesReferenceRow.holds Try.pinned (OpenSpec.ofChange gaussMatchesReferenceSpec)

/-- ITS FALSE NEIGHBOUR: 'it returns false'. Refute it at one input. -/
def gaussMatchesReferenceWrong : ChangeSpec := { name := "gaussMatchesReference", fn := fun _ => fun
  | [d1, d2] => { results := [.lit (.bool false)], args := [d1, d2] }
  | _ => none }
def GaussMatchesReferenceWrongFalsely : Prop := gaussMatchesReferenceRow.holds Try.pinned (OpenSpec.ofChange gaussMatchesReferenceWrong)

/-- 'computuslaw11.GaussExceptions': WHATEVER THE INPUT: true; the input reads as it did. -/
def gaussExceptionsSpec : ChangeSpec := { name := "gaussExceptions", fn := fun _ => fun
  | [d1, d2] => { results := [.lit (.bool true)], args := [d1, d2] }
  | _ => none }
def gaussExceptionsRow : OpenClaim := { program := "ytffjbekbjbomaaa", sum := "3b7b70f2c6a0d1f8c8d57451005e1d715bcd34e015d02882876c69bfbf675ab2", func := "computus/computuslaw11.GaussExceptions", spec := "gaussExceptions", apart := false }
def GaussExceptionsSaid : Prop := gaussExceptionsRow.holds Try.pinned (OpenSpec.ofChange gaussExceptionsSpec)

/-- ITS FALSE NEIGHBOUR: 'it returns false'. Refute it at one input. -/
def gaussExceptionsWrong : ChangeSpec := { name := "gaussExceptions", fn := fun _ => fun
  | [d1, d2] => { results := [.lit (.bool false)], args := [d1, d2] }
  | _ => none }
def GaussExceptionsWrongFalsely : Prop := gaussExceptionsRow.holds Try.pinned (OpenSpec.ofChange gaussExceptionsWrong)

/-- 'computuslaw11.GaussConstants': WHATEVER THE INPUT: true; the input reads as it did. -/
def gaussConstantsSpec : ChangeSpec := { name := "gaussConstants", fn := fun _ => fun
  | [d1, d2, d3] => { results := [.lit (.bool true)], args := [d1, d2, d3] }
  | _ => none }
def gaussConstantsRow : OpenClaim := { program := "ytffjbekbjbomaaa", sum := "3b7b70f2c6a0d1f8c8d57451005e1d715bcd34e015d02882876c69bfbf675ab2", func := "computus/computuslaw11.GaussConstants", spec := "gaussConstants", apart := false }
def GaussConstantsSaid : Prop := gaussConstantsRow.holds Try.pinned (OpenSpec.ofChange gaussConstantsSpec)

/-- ITS FALSE NEIGHBOUR: 'it returns false'. Refute it at one input. -/
def gaussConstantsWrong : ChangeSpec := { name := "gaussConstants", fn := fun _ => fun
  | [d1, d2, d3] => { results := [.lit (.bool false)], args := [d1, d2, d3] }
  | _ => none }
def GaussConstantsWrongFalsely : Prop := gaussConstantsRow.holds Try.pinned (OpenSpec.ofChange gaussConstantsWrong)

/- THE SECOND FORM. 'bulk': how many values and letters a reading holds, each counted each time it is reached (what is shared counts as often as it is met; a slice's spare places count too). A statement '..UptoSaid' is the law's where the arguments, and the package variables that the reading takes, are together of bulk at most 1048576: NARROWER than '..Said'. Prove '..Said' where nothing that the law and all that it calls make is longer than what came in: it says more and counts as full. Else prove '..UptoSaid'. A law counts once. -/
mutual
def uptoBulk {H : Type} : DataW H → Nat
  | .lit (.string bytes) => bytes.length + 1
  | .lit _ => 1
  | .nil => 1
  | .ptr d => uptoBulk d + 1
  | .slice elems spare => uptoBulkAll elems + uptoBulkAll spare + 1
  | .agg parts => uptoBulkAll parts + 1
  | .iface _ d => uptoBulk d + 1
  | .map entries => uptoBulkEntries entries + 1
  | .held _ => 1
def uptoBulkAll {H : Type} : List (DataW H) → Nat
  | [] => 0
  | d :: r => uptoBulk d + uptoBulkAll r
def uptoBulkEntries {H : Type} : List (Lit × DataW H) → Nat
  | [] => 0
  | x :: r => uptoBulkEntry x + uptoBulkEntries r
def uptoBulkEntry {H : Type} : Lit × DataW H → Nat
  | (.string bytes, d) => bytes.length + uptoBulk d + 1
  | (_, d) => uptoBulk d + 1
 end
def uptoSmall : (H : Type) → List (DataW H) → Bool := fun _ ds => decide (uptoBulkAll ds ≤ 1048576)
def OpenSpec.upto (s : _root_.Go.ChangeSpec) : _root_.Go.OpenSpec := { _root_.Go.OpenSpec.ofChange s with cond := some uptoSmall }

/-- 'computuslaw12.ButcherMatchesReference', WHERE WHAT IT READS IS OF BULK AT MOST 1048576: true; the input reads as it did. -/
def butcherMatchesReferenceUptoRow : OpenClaim := { program := "ytffjbekbjbomaaa", sum := "3b7b70f2c6a0d1f8c8d57451005e1d715bcd34e015d02882876c69bfbf675ab2", func := "computus/computuslaw12.ButcherMatchesReference", spec := "butcherMatchesReference", unfollowed := true, recurses := true, apart := false, narrowed := true }
def ButcherMatchesReferenceUptoSaid : Prop := butcherMatchesReferenceUptoRow.holds Try.pinned (OpenSpec.upto butcherMatchesReferenceSpec)

/-- 'computuslaw12.ButcherNumbers', WHERE WHAT IT READS IS OF BULK AT MOST 1048576: true; the input reads as it did. -/
def butcherNumbersUptoRow : OpenClaim := { program := "ytffjbekbjbomaaa", sum := "3b7b70f2c6a0d1f8c8d57451005e1d715bcd34e015d02882876c69bfbf675ab2", func := "computus/computuslaw12.ButcherNumbers", spec := "butcherNumbers", unfollowed := true, recurses := true, apart := false, narrowed := true }
def ButcherNumbersUptoSaid : Prop := butcherNumbersUptoRow.holds Try.pinned (OpenSpec.upto butcherNumbersSpec)

/-- 'computuslaw11.GaussMatchesReference', WHERE WHAT IT READS IS OF BULK AT MOST 1048576: true; the input reads as it did. -/
def gaussMatchesReferenceUptoRow : OpenClaim := { program := "ytffjbekbjbomaaa", sum := "3b7b70f2c6a0d1f8c8d57451005e1d715bcd34e015d02882876c69bfbf675ab2", func := "computus/computuslaw11.GaussMatchesReference", spec := "gaussMatchesReference", apart := false, narrowed := true }
def GaussMatchesReferenceUptoSaid : Prop := gaussMatchesReferenceUptoRow.holds Try.pinned (OpenSpec.upto gaussMatchesReferenceSpec)

/-- 'computuslaw11.GaussExceptions', WHERE WHAT IT READS IS OF BULK AT MOST 1048576: true; the input reads as it did. -/
def gaussExceptionsUptoRow : OpenClaim := { program := "ytffjbekbjbomaaa", sum := "3b7b70f2c6a0d1f8c8d57451005e1d715bcd34e015d02882876c69bfbf675ab2", func := "computus/computuslaw11.GaussExceptions", spec := "gaussExceptions", apart := false, narrowed := true }
def GaussExceptionsUptoSaid : Prop := gaussExceptionsUptoRow.holds Try.pinned (OpenSpec.upto gaussExceptionsSpec)

/-- 'computuslaw11.GaussConstants', WHERE WHAT IT READS IS OF BULK AT MOST 1048576: true; the input reads as it did. -/
def gaussConstantsUptoRow : OpenClaim := { program := "ytffjbekbjbomaaa", sum := "3b7b70f2c6a0d1f8c8d57451005e1d715bcd34e015d02882876c69bfbf675ab2", func := "computus/computuslaw11.GaussConstants", spec := "gaussConstants", apart := false, narrowed := true }
def GaussConstantsUptoSaid : Prop := gaussConstantsUptoRow.holds Try.pinned (OpenSpec.upto gaussConstantsSpec)

end Rows
end Go.Proofs.Ytffjbekbjbomaaa

/-
  No cell of these rows narrows 'for every input' (looked for: loops, veiled, ifaces, maps, wideKeys, modest, calm, conditions, laid).
  DERIVED. THE GIVEN ROWS OF THIS SEAT. 6 by the template 'for every input the law returns true; each argument reads behind the call as it read before'; 0 by the template 'total and deterministic' (their statements: YtolgbpnfhghgaaaTotals.lean).
  GIVEN WITH THE SEED: the statements are not yours to turn. If you find one false, say at which input.
  Laid BY PROGRAM, IN A SANDBOX (cutbox-rows.mjs): the forced cells as the released guide's own fill.sh prints them over the translation ea7e24e74e7754e2… (all of the seat's roots in one cut). By AI agents, Wed Nov 11 2026. No macro, syntax, notation, axiom, sorry.
-/
import Derived.Test.YtolgbpnfhghgaaaChecked
import GoSem.Claim
import GoSem.ClaimJoined
import GoSem.ClaimMapViews
import Derived.JoinedTies
import Derived.KernelRfl
namespace Go.Proofs.Ytolgbpnfhghgaaa
/- THE CELL 'sum', in the pinned program and in every row, IS THE sha256 OF THE DUMP (.gsa) THAT YtolgbpnfhghgaaaProg.lean LOADS. Nothing in Lean hashes anything: it is a label: what it is worth is what the hold of that sum in a sandbox is worth. -/
noncomputable def Try.pinned : Pinned := { name := "ytolgbpnfhghgaaa", sum := "ea7e24e74e7754e2811cf6a983a2e6a8c9b1823e496051450a5bb89dbcbcd305", checked := Try.checked }
namespace Rows
def none {H : Type} : Left H := { results := [], args := [] }

/-- 'computuslaw03.GregorianRoundTrip': WHATEVER THE INPUT: true; the input reads as it did. -/
def gregorianRoundTripSpec : ChangeSpec := { name := "gregorianRoundTrip", fn := fun _ => fun
  | [d1, d2] => { results := [.lit (.bool true)], args := [d1, d2] }
  | _ => none }
def gregorianRoundTripRow : OpenClaim := { program := "ytolgbpnfhghgaaa", sum := "ea7e24e74e7754e2811cf6a983a2e6a8c9b1823e496051450a5bb89dbcbcd305", func := "computus/computuslaw03.GregorianRoundTrip", spec := "gregorianRoundTrip", apart := false }
def GregorianRoundTripSaid : Prop := gregorianRoundTripRow.holds Try.pinned (OpenSpec.ofChange gregorianRoundTripSpec)

/-- ITS FALSE NEIGHBOUR: 'it returns false'. Refute it at one input. -/
def gregorianRoundTripWrong : ChangeSpec := { name := "gregorianRoundTrip", fn := fun _ => fun
  | [d1, d2] => { results := [.lit (.bool false)], args := [d1, d2] }
  | _ => none }
def GregorianRoundTripWrongFalsely : Prop := gregorianRoundTripRow.holds Try.pinned (OpenSpec.ofChange gregorianRoundTripWrong)

/-- 'computuslaw03.GregorianSuccessor': WHATEVER THE INPUT: true; the input reads as it did. -/
def gregorianSuccessorSpec : ChangeSpec := { name := "gregorianSuccessor", fn := fun _ => fun
  | [d] => { results := [.lit (.bool true)], args := [d] }
  | _ => none }
def gregorianSuccessorRow : OpenClaim := { program := "ytolgbpnfhghgaaa", sum := "ea7e24e74e7754e2811cf6a983a2e6a8c9b1823e496051450a5bb89dbcbcd305", func := "computus/computuslaw03.GregorianSuccessor", spec := "gregorianSuccessor", apart := false }
def GregorianSuccessorSaid : Prop := gregorianSuccessorRow.holds Try.pinned (OpenSpec.ofChange gregorianSuccessorSpec)

/-- ITS FALSE NEIGHBOUR: 'it returns false'. Refute it at one input. -/
def gregorianSuccessorWrong : ChangeSpec := { name := "gregorianSuccessor", fn := fun _ => fun
  | [d] => { results := [.lit (.bool false)], args := [d] }
  | _ => none }
def GregorianSuccessorWrongFalsely : Prop := gregorianSuccessorRow.holds Try.pinned (OpenSpec.ofChange gregorianSuccessorWrong)

/-- 'computuslaw03.GregorianOrder': WHATEVER THE INPUT: true; the input reads as it did. -/
def gregorianOrderSpec : ChangeSpec := { name := "gregorianOrder", fn := fun _ => fun
  | [d1, d2] => { results := [.lit (.bool true)], args := [d1, d2] }
  | _ => none }
def gregorianOrderRow : OpenClaim := { program := "ytolgbpnfhghgaaa", sum := "ea7e24e74e7754e2811cf6a983a2e6a8c9b1823e496051450a5bb89dbcbcd305", func := "computus/computuslaw03.GregorianOrder", spec := "gregorianOrder", apart := false }
def GregorianOrderSaid : Prop := gregorianOrderRow.holds Try.pinned (OpenSpec.ofChange gregorianOrderSpec)

/-- ITS FALSE NEIGHBOUR: 'it returns false'. Refute it at one input. -/
def gregorianOrderWrong : ChangeSpec := { name := "gregorianOrder", fn := fun _ => fun
  | [d1, d2] => { results := [.lit (.bool false)], args := [d1, d2] }
  | _ => none }
def GregorianOrderWrongFalsely : Prop := gregorianOrderRow.holds Try.pinned (OpenSpec.ofChange gregorianOrderWrong)

/-- 'computuslaw03.GregorianCycle': WHATEVER THE INPUT: true; the input reads as it did. -/
def gregorianCycleSpec : ChangeSpec := { name := "gregorianCycle", fn := fun _ => fun
  | [d] => { results := [.lit (.bool true)], args := [d] }
  | _ => none }
def gregorianCycleRow : OpenClaim := { program := "ytolgbpnfhghgaaa", sum := "ea7e24e74e7754e2811cf6a983a2e6a8c9b1823e496051450a5bb89dbcbcd305", func := "computus/computuslaw03.GregorianCycle", spec := "gregorianCycle", apart := false }
def GregorianCycleSaid : Prop := gregorianCycleRow.holds Try.pinned (OpenSpec.ofChange gregorianCycleSpec)

/-- ITS FALSE NEIGHBOUR: 'it returns false'. Refute it at one input. -/
def gregorianCycleWrong : ChangeSpec := { name := "gregorianCycle", fn := fun _ => fun
  | [d] => { results := [.lit (.bool false)], args := [d] }
  | _ => none }
def GregorianCycleWrongFalsely : Prop := gregorianCycleRow.holds Try.pinned (OpenSpec.ofChange gregorianCycleWrong)

/-- 'computuslaw03.GregorianMonths': WHATEVER THE INPUT: true; the input reads as it did. -/
def gregorianMonthsSpec : ChangeSpec := { name := "gregorianMonths", fn := fun _ => fun
  | [d1, d2] => { results := [.lit (.bool true)], args := [d1, d2] }
  | _ => none }
def gregorianMonthsRow : OpenClaim := { program := "ytolgbpnfhghgaaa", sum := "ea7e24e74e7754e2811cf6a983a2e6a8c9b1823e496051450a5bb89dbcbcd305", func := "computus/computuslaw03.GregorianMonths", spec := "gregorianMonths", apart := false }
def GregorianMonthsSaid : Prop := gregorianMonthsRow.holds Try.pinned (OpenSpec.ofChange gregorianMonthsSpec)

/-- ITS FALSE NEIGHBOUR: 'it returns false'. Refute it at one input. -/
def gregorianMonthsWrong : ChangeSpec := { name := "gregorianMonths", fn := fun _ => fun
  | [d1, d2] => { results := [.lit (.bool false)], args := [d1, d2] }
  | _ => none }
def GregorianMonthsWrongFalsely : Prop := gregorianMonthsRow.holds Try.pinned (OpenSpec.ofChange gregorianMonthsWrong)

/-- 'computuslaw03.GregorianMatchesReference': WHATEVER THE INPUT: true; the input reads as it did. -/
def gregorianMatchesReferenceSpec : ChangeSpec := { name := "gregorianMatchesReference", fn := fun _ => fun
  | [d1, d2, d3, d4] => { results := [.lit (.bool true)], args := [d1, d2, d3, d4] }
  | _ => none }
def gregorianMatchesReferenceRow : OpenClaim := { program := "ytolgbpnfhghgaaa", sum := "ea7e24e74e7754e2811cf6a983a2e6a8c9b1823e496051450a5bb89dbcbcd305", func := "computus/computuslaw03.GregorianMatchesReference", spec := "gregorianMatchesReference", apart := false }
def GregorianMatchesReferenceSaid : Prop := gregorianMatchesReferenceRow.holds Try.pinned (OpenSpec.ofChange gregorianMatchesReferenceSpec)

/-- ITS FALSE NEIGHBOUR: 'it returns false'. Refute it at one input. -/
def gregorianMatchesReferenceWrong : ChangeSpec := { name := "gregorianMatchesReference", fn := fun _ => fun
  | [d1, d2, d3, d4] => { results := [.lit (.bool false)], args := [d1, d2, d3, d4] }
  | _ => none }
def GregorianMatchesReferenceWrongFalsely : Prop := gregorianMatchesReferenceRow.holds Try.pinned (OpenSpec.ofChange gregorianMatchesReferenceWrong)

/- THE SECOND FORM. 'bulk': how many values and letters a reading holds, each counted each time it is reached (what is shared counts as often as it is met; a slice's spare places count too). A statement '..UptoSaid' is the law's where the arguments, and the package variables that the reading takes, are together of bulk at most 1048576: NARROWER than '..Said'. Prove '..Said' where nothing that the law and all that it calls make is longer than what came in: it says more and counts as full. Else prove '..UptoSaid'. A law counts once. -/
mutual
def uptoBulk {H : Type} : DataW H → Nat
  | .lit (.string bytes) => bytes.length + 1
  | .lit _ => 1
  | .nil => 1
  | .ptr d => uptoBulk d + 1
  | .slice elems spare => uptoBulkAll elems + uptoBulkAll spare + 1
  | .agg parts => uptoBulkAll parts + 1
  | .iface _ d => uptoBulk d + 1
  | .map entries => uptoBulkEntries entries + 1
  | .held _ => 1
def uptoBulkAll {H : Type} : List (DataW H) → Nat
  | [] => 0
  | d :: r => uptoBulk d + uptoBulkAll r
def uptoBulkEntries {H : Type} : List (Lit × DataW H) → Nat
  | [] => 0
  | x :: r => uptoBulkEntry x + uptoBulkEntries r
def uptoBulkEntry {H : Type} : Lit × DataW H → Nat
  | (.string bytes, d) => bytes.length + uptoBulk d + 1
  | (_, d) => uptoBulk d + 1
 end
def uptoSmall : (H : Type) → List (DataW H) → Bool := fun _ ds => decide (uptoBulkAll ds ≤ 1048576)
def OpenSpec.upto (s : _root_.Go.ChangeSpec) : _root_.Go.OpenSpec := { _root_.Go.OpenSpec.ofChange s with cond := some uptoSmall }

/-- 'computuslaw03.GregorianRoundTrip', WHERE WHAT IT READS IS OF BULK AT MOST 1048576: true; the input reads as it did. -/
def gregorianRoundTripUptoRow : OpenClaim := { program := "ytolgbpnfhghgaaa", sum := "ea7e24e74e7754e2811cf6a983a2e6a8c9b1823e496051450a5bb89dbcbcd305", func := "computus/computuslaw03.GregorianRoundTrip", spec := "gregorianRoundTrip", apart := false, narrowed := true }
def GregorianRoundTripUptoSaid : Prop := gregorianRoundTripUptoRow.holds Try.pinned (OpenSpec.upto gregorianRoundTripSpec)

/-- 'computuslaw03.GregorianSuccessor', WHERE WHAT IT READS IS OF BULK AT MOST 1048576: true; the input reads as it did. -/
def gregorianSuccessorUptoRow : OpenClaim := { program := "ytolgbpnfhghgaaa", sum := "ea7e24e74e7754e2811cf6a983a2e6a8c9b1823e496051450a5bb89dbcbcd305", func := "computus/computuslaw03.GregorianSuccessor", spec := "gregorianSuccessor", apart := false, narrowed := true }
def GregorianSuccessorUptoSaid : Prop := gregorianSuccessorUptoRow.holds Try.pinned (OpenSpec.upto gregorianSuccessorSpec)

/-- 'computuslaw03.GregorianOrder', WHERE WHAT IT READS IS OF BULK AT MOST 1048576: true; the input reads as it did. -/
def gregorianOrderUptoRow : OpenClaim := { program := "ytolgbpnfhghgaaa", sum := "ea7e24e74e7754e2811cf6a983a2e6a8c9b1823e496051450a5bb89dbcbcd305", func := "computus/computuslaw03.GregorianOrder", spec := "gregorianOrder", apart := false, narrowed := true }
def GregorianOrderUptoSaid : Prop := gregorianOrderUptoRow.holds Try.pinned (OpenSpec.upto gregorianOrderSpec)

/-- 'computuslaw03.GregorianCycle', WHERE WHAT IT READS IS OF BULK AT MOST 1048576: true; the input reads as it did. -/
def gregorianCycleUptoRow : OpenClaim := { program := "ytolgbpnfhghgaaa", sum := "ea7e24e74e7754e2811cf6a983a2e6a8c9b1823e496051450a5bb89dbcbcd305", func := "computus/computuslaw03.GregorianCycle", spec := "gregorianCycle", apart := false, narrowed := true }
def GregorianCycleUptoSaid : Prop := gregorianCycleUptoRow.holds Try.pinned (OpenSpec.upto gregorianCycleSpec)

/-- 'computuslaw03.GregorianMonths', WHERE WHAT IT READS IS OF BULK AT MOST 1048576: true; the input reads as it did. -/
def gregorianMonthsUptoRow : OpenClaim := { program := "ytolgbpnfhghgaaa", sum := "ea7e24e74e7754e2811cf6a983a2e6a8c9b1823e496051450a5bb89dbcbcd305", func := "computus/computuslaw03.GregorianMonths", spec := "gregorianMonths", apart := false, narrowed := true }
def GregorianMonthsUptoSaid : Prop := gregorianMonthsUptoRow.holds Try.pinned (OpenSpec.upto gregorianMonthsSpec)

/-- 'computuslaw03.GregorianMatchesReference', WHERE WHAT IT READS IS OF BULK AT MOST 1048576: true; the input reads as it did. -/
def gregorianMatchesReferenceUptoRow : OpenClaim := { program := "ytolgbpnfhghgaaa", sum := "ea7e24e74e7754e2811cf6a983a2e6a8c9b1823e496051450a5bb89dbcbcd305", func := "computus/computuslaw03.GregorianMatchesReference", spec := "gregorianMatchesReference", apart := false, narrowed := true }
def GregorianMatchesReferenceUptoSaid : Prop := gregorianMatchesReferenceUptoRow.holds Try.pinned (OpenSpec.upto gregorianMatchesReferenceSpec)

end Rows
end Go.Proofs.Ytolgbpnfhghgaaa

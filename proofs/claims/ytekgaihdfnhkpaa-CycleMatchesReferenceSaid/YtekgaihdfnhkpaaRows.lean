/-
  No cell of these rows narrows 'for every input' (looked for: loops, veiled, ifaces, maps, wideKeys, modest, calm, conditions, laid).
  DERIVED. THE GIVEN ROWS OF THIS SEAT. 5 by the template 'for every input the law returns true; each argument reads behind the call as it read before'; 0 by the template 'total and deterministic' (their statements: YtekgaihdfnhkpaaTotals.lean).
  GIVEN WITH THE SEED: the statements are not yours to turn. If you find one false, say at which input.
  Laid BY PROGRAM, IN A SANDBOX (cutbox-rows.mjs): the forced cells as the released guide's own fill.sh prints them over the translation 66e9d1ffd4d094f5… (all of the seat's roots in one cut). By AI agents, Wed Nov 11 2026. No macro, syntax, notation, axiom, sorry.
-/
import Derived.Test.YtekgaihdfnhkpaaChecked
import GoSem.Claim
import GoSem.ClaimJoined
import GoSem.ClaimMapViews
import Derived.JoinedTies
import Derived.KernelRfl
namespace Go.Proofs.Ytekgaihdfnhkpaa
/- THE CELL 'sum', in the pinned program and in every row, IS THE sha256 OF THE DUMP (.gsa) THAT YtekgaihdfnhkpaaProg.lean LOADS. Nothing in Lean hashes anything: it is a label: what it is worth is what the hold of that sum in a sandbox is worth. -/
noncomputable def Try.pinned : Pinned := { name := "ytekgaihdfnhkpaa", sum := "66e9d1ffd4d094f5e3caddecb88da256a57a9da2173aacd2d7d635d58941cf61", checked := Try.checked }
namespace Rows
def none {H : Type} : Left H := { results := [], args := [] }

/-- 'computuslaw14.CycleNext': WHATEVER THE INPUT: true; the input reads as it did. -/
def cycleNextSpec : ChangeSpec := { name := "cycleNext", fn := fun _ => fun
  | [d1, d2, d3, d4] => { results := [.lit (.bool true)], args := [d1, d2, d3, d4] }
  | _ => none }
def cycleNextRow : OpenClaim := { program := "ytekgaihdfnhkpaa", sum := "66e9d1ffd4d094f5e3caddecb88da256a57a9da2173aacd2d7d635d58941cf61", func := "computus/computuslaw14.CycleNext", spec := "cycleNext", unfollowed := true, recurses := true, apart := false }
def CycleNextSaid : Prop := cycleNextRow.holds Try.pinned (OpenSpec.ofChange cycleNextSpec)

/-- ITS FALSE NEIGHBOUR: 'it returns false'. Refute it at one input. -/
def cycleNextWrong : ChangeSpec := { name := "cycleNext", fn := fun _ => fun
  | [d1, d2, d3, d4] => { results := [.lit (.bool false)], args := [d1, d2, d3, d4] }
  | _ => none }
def CycleNextWrongFalsely : Prop := cycleNextRow.holds Try.pinned (OpenSpec.ofChange cycleNextWrong)

/-- 'computuslaw14.CyclePeriods': WHATEVER THE INPUT: true; the input reads as it did. -/
def cyclePeriodsSpec : ChangeSpec := { name := "cyclePeriods", fn := fun _ => fun
  | [d1, d2, d3, d4] => { results := [.lit (.bool true)], args := [d1, d2, d3, d4] }
  | _ => none }
def cyclePeriodsRow : OpenClaim := { program := "ytekgaihdfnhkpaa", sum := "66e9d1ffd4d094f5e3caddecb88da256a57a9da2173aacd2d7d635d58941cf61", func := "computus/computuslaw14.CyclePeriods", spec := "cyclePeriods", unfollowed := true, recurses := true, apart := false }
def CyclePeriodsSaid : Prop := cyclePeriodsRow.holds Try.pinned (OpenSpec.ofChange cyclePeriodsSpec)

/-- ITS FALSE NEIGHBOUR: 'it returns false'. Refute it at one input. -/
def cyclePeriodsWrong : ChangeSpec := { name := "cyclePeriods", fn := fun _ => fun
  | [d1, d2, d3, d4] => { results := [.lit (.bool false)], args := [d1, d2, d3, d4] }
  | _ => none }
def CyclePeriodsWrongFalsely : Prop := cyclePeriodsRow.holds Try.pinned (OpenSpec.ofChange cyclePeriodsWrong)

/-- 'computuslaw14.CycleEarliest': WHATEVER THE INPUT: true; the input reads as it did. -/
def cycleEarliestSpec : ChangeSpec := { name := "cycleEarliest", fn := fun _ => fun
  | [d1, d2, d3, d4] => { results := [.lit (.bool true)], args := [d1, d2, d3, d4] }
  | _ => none }
def cycleEarliestRow : OpenClaim := { program := "ytekgaihdfnhkpaa", sum := "66e9d1ffd4d094f5e3caddecb88da256a57a9da2173aacd2d7d635d58941cf61", func := "computus/computuslaw14.CycleEarliest", spec := "cycleEarliest", unfollowed := true, recurses := true, apart := false }
def CycleEarliestSaid : Prop := cycleEarliestRow.holds Try.pinned (OpenSpec.ofChange cycleEarliestSpec)

/-- ITS FALSE NEIGHBOUR: 'it returns false'. Refute it at one input. -/
def cycleEarliestWrong : ChangeSpec := { name := "cycleEarliest", fn := fun _ => fun
  | [d1, d2, d3, d4] => { results := [.lit (.bool false)], args := [d1, d2, d3, d4] }
  | _ => none }
def CycleEarliestWrongFalsely : Prop := cycleEarliestRow.holds Try.pinned (OpenSpec.ofChange cycleEarliestWrong)

/-- 'computuslaw14.CycleMatchesReference': WHATEVER THE INPUT: true; the input reads as it did. -/
def cycleMatchesReferenceSpec : ChangeSpec := { name := "cycleMatchesReference", fn := fun _ => fun
  | [d1, d2, d3, d4, d5] => { results := [.lit (.bool true)], args := [d1, d2, d3, d4, d5] }
  | _ => none }
def cycleMatchesReferenceRow : OpenClaim := { program := "ytekgaihdfnhkpaa", sum := "66e9d1ffd4d094f5e3caddecb88da256a57a9da2173aacd2d7d635d58941cf61", func := "computus/computuslaw14.CycleMatchesReference", spec := "cycleMatchesReference", unfollowed := true, recurses := true, apart := false }
def CycleMatchesReferenceSaid : Prop := cycleMatchesReferenceRow.holds Try.pinned (OpenSpec.ofChange cycleMatchesReferenceSpec)

/-- ITS FALSE NEIGHBOUR: 'it returns false'. Refute it at one input. -/
def cycleMatchesReferenceWrong : ChangeSpec := { name := "cycleMatchesReference", fn := fun _ => fun
  | [d1, d2, d3, d4, d5] => { results := [.lit (.bool false)], args := [d1, d2, d3, d4, d5] }
  | _ => none }
def CycleMatchesReferenceWrongFalsely : Prop := cycleMatchesReferenceRow.holds Try.pinned (OpenSpec.ofChange cycleMatchesReferenceWrong)

/-- 'computuslaw14.CycleHistogram': WHATEVER THE INPUT: true; the input reads as it did. -/
def cycleHistogramSpec : ChangeSpec := { name := "cycleHistogram", fn := fun _ => fun
  | [d1, d2, d3, d4] => { results := [.lit (.bool true)], args := [d1, d2, d3, d4] }
  | _ => none }
def cycleHistogramRow : OpenClaim := { program := "ytekgaihdfnhkpaa", sum := "66e9d1ffd4d094f5e3caddecb88da256a57a9da2173aacd2d7d635d58941cf61", func := "computus/computuslaw14.CycleHistogram", spec := "cycleHistogram", unfollowed := true, recurses := true, apart := false }
def CycleHistogramSaid : Prop := cycleHistogramRow.holds Try.pinned (OpenSpec.ofChange cycleHistogramSpec)

/-- ITS FALSE NEIGHBOUR: 'it returns false'. Refute it at one input. -/
def cycleHistogramWrong : ChangeSpec := { name := "cycleHistogram", fn := fun _ => fun
  | [d1, d2, d3, d4] => { results := [.lit (.bool false)], args := [d1, d2, d3, d4] }
  | _ => none }
def CycleHistogramWrongFalsely : Prop := cycleHistogramRow.holds Try.pinned (OpenSpec.ofChange cycleHistogramWrong)

/- THE SECOND FORM. 'bulk': how many values and letters a reading holds, each counted each time it is reached (what is shared counts as often as it is met; a slice's spare places count too). A statement '..UptoSaid' is the law's where the arguments, and the package variables that the reading takes, are together of bulk at most 1048576: NARROWER than '..Said'. Prove '..Said' where nothing that the law and all that it calls make is longer than what came in: it says more and counts as full. Else prove '..UptoSaid'. A law counts once. -/
mutual
def uptoBulk {H : Type} : DataW H → Nat
  | .lit (.string bytes) => bytes.length + 1
  | .lit _ => 1
  | .nil => 1
  | .ptr d => uptoBulk d + 1
  | .slice elems spare => uptoBulkAll elems + uptoBulkAll spare + 1
  | .agg parts => uptoBulkAll parts + 1
  | .iface _ d => uptoBulk d + 1
  | .map entries => uptoBulkEntries entries + 1
  | .held _ => 1
def uptoBulkAll {H : Type} : List (DataW H) → Nat
  | [] => 0
  | d :: r => uptoBulk d + uptoBulkAll r
def uptoBulkEntries {H : Type} : List (Lit × DataW H) → Nat
  | [] => 0
  | x :: r => uptoBulkEntry x + uptoBulkEntries r
def uptoBulkEntry {H : Type} : Lit × DataW H → Nat
  | (.string bytes, d) => bytes.length + uptoBulk d + 1
  | (_, d) => uptoBulk d + 1
 end
def uptoSmall : (H : Type) → List (DataW H) → Bool := fun _ ds => decide (uptoBulkAll ds ≤ 1048576)
def OpenSpec.upto (s : _root_.Go.ChangeSpec) : _root_.Go.OpenSpec := { _root_.Go.OpenSpec.ofChange s with cond := some uptoSmall }

/-- 'computuslaw14.CycleNext', WHERE WHAT IT READS IS OF BULK AT MOST 1048576: true; the input reads as it did. -/
def cycleNextUptoRow : OpenClaim := { program := "ytekgaihdfnhkpaa", sum := "66e9d1ffd4d094f5e3caddecb88da256a57a9da2173aacd2d7d635d58941cf61", func := "computus/computuslaw14.CycleNext", spec := "cycleNext", unfollowed := true, recurses := true, apart := false, narrowed := true }
def CycleNextUptoSaid : Prop := cycleNextUptoRow.holds Try.pinned (OpenSpec.upto cycleNextSpec)

/-- 'computuslaw14.CyclePeriods', WHERE WHAT IT READS IS OF BULK AT MOST 1048576: true; the input reads as it did. -/
def cyclePeriodsUptoRow : OpenClaim := { program := "ytekgaihdfnhkpaa", sum := "66e9d1ffd4d094f5e3caddecb88da256a57a9da2173aacd2d7d635d58941cf61", func := "computus/computuslaw14.CyclePeriods", spec := "cyclePeriods", unfollowed := true, recurses := true, apart := false, narrowed := true }
def CyclePeriodsUptoSaid : Prop := cyclePeriodsUptoRow.holds Try.pinned (OpenSpec.upto cyclePeriodsSpec)

/-- 'computuslaw14.CycleEarliest', WHERE WHAT IT READS IS OF BULK AT MOST 1048576: true; the input reads as it did. -/
def cycleEarliestUptoRow : OpenClaim := { program := "ytekgaihdfnhkpaa", sum := "66e9d1ffd4d094f5e3caddecb88da256a57a9da2173aacd2d7d635d58941cf61", func := "computus/computuslaw14.CycleEarliest", spec := "cycleEarliest", unfollowed := true, recurses := true, apart := false, narrowed := true }
def CycleEarliestUptoSaid : Prop := cycleEarliestUptoRow.holds Try.pinned (OpenSpec.upto cycleEarliestSpec)

/-- 'computuslaw14.CycleMatchesReference', WHERE WHAT IT READS IS OF BULK AT MOST 1048576: true; the input reads as it did. -/
def cycleMatchesReferenceUptoRow : OpenClaim := { program := "ytekgaihdfnhkpaa", sum := "66e9d1ffd4d094f5e3caddecb88da256a57a9da2173aacd2d7d635d58941cf61", func := "computus/computuslaw14.CycleMatchesReference", spec := "cycleMatchesReference", unfollowed := true, recurses := true, apart := false, narrowed := true }
def CycleMatchesReferenceUptoSaid : Prop := cycleMatchesReferenceUptoRow.holds Try.pinned (OpenSpec.upto cycleMatchesReferenceSpec)

/-- 'computuslaw14.CycleHistogram', WHERE WHAT IT READS IS OF BULK AT MOST 1048576: true; the input reads as it did. -/
def cycleHistogramUptoRow : OpenClaim := { program := "ytekgaihdfnhkpaa", sum := "66e9d1ffd4d094f5e3caddecb88da256a57a9da2173aacd2d7d635d58941cf61", func := "computus/computuslaw14.CycleHistogram", spec := "cycleHistogram", unfollowed := true, recurses := true, apart := false, narrowed := true }
def CycleHistogramUptoSaid : Prop := cycleHistogramUptoRow.holds Try.pinned (OpenSpec.upto cycleHistogramSpec)

end Rows
end Go.Proofs.Ytekgaihdfnhkpaa

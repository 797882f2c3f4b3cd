/-
  No cell of these rows narrows 'for every input' (looked for: loops, veiled, ifaces, maps, wideKeys, modest, calm, conditions, laid).
  DERIVED. THE GIVEN ROWS OF THIS SEAT. 4 by the template 'for every input the law returns true; each argument reads behind the call as it read before'; 0 by the template 'total and deterministic' (their statements: YthhaicledbcnmaaTotals.lean).
  GIVEN WITH THE SEED: the statements are not yours to turn. If you find one false, say at which input.
  Laid BY PROGRAM, IN A SANDBOX (cutbox-rows.mjs): the forced cells as the released guide's own fill.sh prints them over the translation 3301c6afef67e332… (all of the seat's roots in one cut). By AI agents, Wed Nov 11 2026. No macro, syntax, notation, axiom, sorry.
-/
import Derived.Test.YthhaicledbcnmaaChecked
import GoSem.Claim
import GoSem.ClaimJoined
import GoSem.ClaimMapViews
import Derived.JoinedTies
import Derived.KernelRfl
namespace Go.Proofs.Ythhaicledbcnmaa
/- THE CELL 'sum', in the pinned program and in every row, IS THE sha256 OF THE DUMP (.gsa) THAT YthhaicledbcnmaaProg.lean LOADS. Nothing in Lean hashes anything: it is a label: what it is worth is what the hold of that sum in a sandbox is worth. -/
noncomputable def Try.pinned : Pinned := { name := "ythhaicledbcnmaa", sum := "3301c6afef67e33235ab3a20193bc181447a840a0e80f602c8eb7a84db0d7921", checked := Try.checked }
namespace Rows
def none {H : Type} : Left H := { results := [], args := [] }

/-- 'computuslaw17.CatalogueMatchesReference': WHATEVER THE INPUT: true; the input reads as it did. -/
def catalogueMatchesReferenceSpec : ChangeSpec := { name := "catalogueMatchesReference", fn := fun _ => fun
  | [d1, d2, d3, d4] => { results := [.lit (.bool true)], args := [d1, d2, d3, d4] }
  | _ => none }
def catalogueMatchesReferenceRow : OpenClaim := { program := "ythhaicledbcnmaa", sum := "3301c6afef67e33235ab3a20193bc181447a840a0e80f602c8eb7a84db0d7921", func := "computus/computuslaw17.CatalogueMatchesReference", spec := "catalogueMatchesReference", unfollowed := true, recurses := true, apart := false }
def CatalogueMatchesReferenceSaid : Prop := catalogueMatchesReferenceRow.holds Try.pinned (OpenSpec.ofChange catalogueMatchesReferenceSpec)

/-- ITS FALSE NEIGHBOUR: 'it returns false'. Refute it at one input. -/
def catalogueMatchesReferenceWrong : ChangeSpec := { name := "catalogueMatchesReference", fn := fun _ => fun
  | [d1, d2, d3, d4] => { results := [.lit (.bool false)], args := [d1, d2, d3, d4] }
  | _ => none }
def CatalogueMatchesReferenceWrongFalsely : Prop := catalogueMatchesReferenceRow.holds Try.pinned (OpenSpec.ofChange catalogueMatchesReferenceWrong)

/-- 'computuslaw17.CatalogueCheck': WHATEVER THE INPUT: true; the input reads as it did. -/
def catalogueCheckSpec : ChangeSpec := { name := "catalogueCheck", fn := fun _ => fun
  | [d1, d2, d3] => { results := [.lit (.bool true)], args := [d1, d2, d3] }
  | _ => none }
def catalogueCheckRow : OpenClaim := { program := "ythhaicledbcnmaa", sum := "3301c6afef67e33235ab3a20193bc181447a840a0e80f602c8eb7a84db0d7921", func := "computus/computuslaw17.CatalogueCheck", spec := "catalogueCheck", unfollowed := true, recurses := true, apart := false }
def CatalogueCheckSaid : Prop := catalogueCheckRow.holds Try.pinned (OpenSpec.ofChange catalogueCheckSpec)

/-- ITS FALSE NEIGHBOUR: 'it returns false'. Refute it at one input. -/
def catalogueCheckWrong : ChangeSpec := { name := "catalogueCheck", fn := fun _ => fun
  | [d1, d2, d3] => { results := [.lit (.bool false)], args := [d1, d2, d3] }
  | _ => none }
def CatalogueCheckWrongFalsely : Prop := catalogueCheckRow.holds Try.pinned (OpenSpec.ofChange catalogueCheckWrong)

/-- 'computuslaw17.CatalogueGrows': WHATEVER THE INPUT: true; the input reads as it did. -/
def catalogueGrowsSpec : ChangeSpec := { name := "catalogueGrows", fn := fun _ => fun
  | [d1, d2, d3] => { results := [.lit (.bool true)], args := [d1, d2, d3] }
  | _ => none }
def catalogueGrowsRow : OpenClaim := { program := "ythhaicledbcnmaa", sum := "3301c6afef67e33235ab3a20193bc181447a840a0e80f602c8eb7a84db0d7921", func := "computus/computuslaw17.CatalogueGrows", spec := "catalogueGrows", unfollowed := true, recurses := true, apart := false }
def CatalogueGrowsSaid : Prop := catalogueGrowsRow.holds Try.pinned (OpenSpec.ofChange catalogueGrowsSpec)

/-- ITS FALSE NEIGHBOUR: 'it returns false'. Refute it at one input. -/
def catalogueGrowsWrong : ChangeSpec := { name := "catalogueGrows", fn := fun _ => fun
  | [d1, d2, d3] => { results := [.lit (.bool false)], args := [d1, d2, d3] }
  | _ => none }
def CatalogueGrowsWrongFalsely : Prop := catalogueGrowsRow.holds Try.pinned (OpenSpec.ofChange catalogueGrowsWrong)

/-- 'computuslaw17.CatalogueOrder': WHATEVER THE INPUT: true; the input reads as it did. -/
def catalogueOrderSpec : ChangeSpec := { name := "catalogueOrder", fn := fun _ => fun
  | [d] => { results := [.lit (.bool true)], args := [d] }
  | _ => none }
def catalogueOrderRow : OpenClaim := { program := "ythhaicledbcnmaa", sum := "3301c6afef67e33235ab3a20193bc181447a840a0e80f602c8eb7a84db0d7921", func := "computus/computuslaw17.CatalogueOrder", spec := "catalogueOrder", unfollowed := true, recurses := true, apart := false }
def CatalogueOrderSaid : Prop := catalogueOrderRow.holds Try.pinned (OpenSpec.ofChange catalogueOrderSpec)

/-- ITS FALSE NEIGHBOUR: 'it returns false'. Refute it at one input. -/
def catalogueOrderWrong : ChangeSpec := { name := "catalogueOrder", fn := fun _ => fun
  | [d] => { results := [.lit (.bool false)], args := [d] }
  | _ => none }
def CatalogueOrderWrongFalsely : Prop := catalogueOrderRow.holds Try.pinned (OpenSpec.ofChange catalogueOrderWrong)

/- THE SECOND FORM. 'bulk': how many values and letters a reading holds, each counted each time it is reached (what is shared counts as often as it is met; a slice's spare places count too). A statement '..UptoSaid' is the law's where the arguments, and the package variables that the reading takes, are together of bulk at most 1048576: NARROWER than '..Said'. Prove '..Said' where nothing that the law and all that it calls make is longer than what came in: it says more and counts as full. Else prove '..UptoSaid'. A law counts once. -/
mutual
def uptoBulk {H : Type} : DataW H → Nat
  | .lit (.string bytes) => bytes.length + 1
  | .lit _ => 1
  | .nil => 1
  | .ptr d => uptoBulk d + 1
  | .slice elems spare => uptoBulkAll elems + uptoBulkAll spare + 1
  | .agg parts => uptoBulkAll parts + 1
  | .iface _ d => uptoBulk d + 1
  | .map entries => uptoBulkEntries entries + 1
  | .held _ => 1
def uptoBulkAll {H : Type} : List (DataW H) → Nat
  | [] => 0
  | d :: r => uptoBulk d + uptoBulkAll r
def uptoBulkEntries {H : Type} : List (Lit × DataW H) → Nat
  | [] => 0
  | x :: r => uptoBulkEntry x + uptoBulkEntries r
def uptoBulkEntry {H : Type} : Lit × DataW H → Nat
  | (.string bytes, d) => bytes.length + uptoBulk d + 1
  | (_, d) => uptoBulk d + 1
 end
def uptoSmall : (H : Type) → List (DataW H) → Bool := fun _ ds => decide (uptoBulkAll ds ≤ 1048576)
def OpenSpec.upto (s : _root_.Go.ChangeSpec) : _root_.Go.OpenSpec := { _root_.Go.OpenSpec.ofChange s with cond := some uptoSmall }

/-- 'computuslaw17.CatalogueMatchesReference', WHERE WHAT IT READS IS OF BULK AT MOST 1048576: true; the input reads as it did. -/
def catalogueMatchesReferenceUptoRow : OpenClaim := { program := "ythhaicledbcnmaa", sum := "3301c6afef67e33235ab3a20193bc181447a840a0e80f602c8eb7a84db0d7921", func := "computus/computuslaw17.CatalogueMatchesReference", spec := "catalogueMatchesReference", unfollowed := true, recurses := true, apart := false, narrowed := true }
def CatalogueMatchesReferenceUptoSaid : Prop := catalogueMatchesReferenceUptoRow.holds Try.pinned (OpenSpec.upto catalogueMatchesReferenceSpec)

/-- 'computuslaw17.CatalogueCheck', WHERE WHAT IT READS IS OF BULK AT MOST 1048576: true; the input reads as it did. -/
def catalogueCheckUptoRow : OpenClaim := { program := "ythhaicledbcnmaa", sum := "3301c6afef67e33235ab3a20193bc181447a840a0e80f602c8eb7a84db0d7921", func := "computus/computuslaw17.CatalogueCheck", spec := "catalogueCheck", unfollowed := true, recurses := true, apart := false, narrowed := true }
def CatalogueCheckUptoSaid : Prop := catalogueCheckUptoRow.holds Try.pinned (OpenSpec.upto catalogueCheckSpec)

/-- 'computuslaw17.CatalogueGrows', WHERE WHAT IT READS IS OF BULK AT MOST 1048576: true; the input reads as it did. -/
def catalogueGrowsUptoRow : OpenClaim := { program := "ythhaicledbcnmaa", sum := "3301c6afef67e33235ab3a20193bc181447a840a0e80f602c8eb7a84db0d7921", func := "computus/computuslaw17.CatalogueGrows", spec := "catalogueGrows", unfollowed := true, recurses := true, apart := false, narrowed := true }
def CatalogueGrowsUptoSaid : Prop := catalogueGrowsUptoRow.holds Try.pinned (OpenSpec.upto catalogueGrowsSpec)

/-- 'computuslaw17.CatalogueOrder', WHERE WHAT IT READS IS OF BULK AT MOST 1048576: true; the input reads as it did. -/
def catalogueOrderUptoRow : OpenClaim := { program := "ythhaicledbcnmaa", sum := "3301c6afef67e33235ab3a20193bc181447a840a0e80f602c8eb7a84db0d7921", func := "computus/computuslaw17.CatalogueOrder", spec := "catalogueOrder", unfollowed := true, recurses := true, apart := false, narrowed := true }
def CatalogueOrderUptoSaid : Prop := catalogueOrderUptoRow.holds Try.pinned (OpenSpec.upto catalogueOrderSpec)

end Rows
end Go.Proofs.Ythhaicledbcnmaa

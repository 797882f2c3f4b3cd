/- Contracts: slices.Index, slices.Contains at ints; label.Bears. -/
import Derived.Test.YthhaicledbcnmaaLabOn
import Derived.Outline
set_option linter.unusedSimpArgs false
set_option linter.unusedVariables false
set_option linter.unusedSectionVars false
namespace Go.Proofs.Ythhaicledbcnmaa
open Go.ChangeShapes Go.WideShapes Go.ChangeAt Go.RowKit
set_option maxHeartbeats 800000

def idxAt (x : Int) : List Int → Nat → Int
  | [], _ => -1
  | y :: t, i => if x = y then i else idxAt x t (i + 1)
theorem idxAt_sign (x : Int) (L : List Int) (i : Nat) : decide (0 ≤ idxAt x L i) = decide (x ∈ L) := by
  induction L generalizing i with
  | nil => simp [idxAt]
  | cons y t ih =>
    unfold idxAt
    by_cases e : x = y
    · simp [e]
    · rw [if_neg e, ih]
      simp [e]
theorem idxAt_bounds (x : Int) (L : List Int) (i : Nat) : -1 ≤ idxAt x L i ∧ idxAt x L i ≤ i + L.length := by
  induction L generalizing i with
  | nil => simp [idxAt]
  | cons y t ih =>
    unfold idxAt
    have := ih (i + 1)
    simp only [List.length_cons]
    split <;> omega
/-- The numbers L lie in the block b. -/
def Lies (w : World) (b : Nat) (L : List Int) : Prop := ∀ j, j < L.length → w.cell? ⟨b, j, none⟩ = some (.int .i64 L[j]!)
instance (m d : Int) : Decidable (Ex m d) := by unfold Ex; infer_instance
/-- The labels of a day, those that label.On returns. -/
def onD (m d : Int) : List Int := onL (lun (dayN m d)) (psn (dayN m d))
def bears (m d l : Int) : Bool := decide (Ex m d ∧ l ∈ onD m d)
theorem onL_len (l p : Int) : (onL l p).length ≤ 2 := by
  unfold onL
  repeat' split
  all_goals simp
theorem lies_new (w : World) (L : List Int) (T : TypeId) : Lies (w.alloc (.cells (L.map (Value.int .i64)).toArray T)) w.heap.size L := fun j hj => by
  have := World.cell?_alloc_mark w (L.map (Value.int .i64)).toArray T (0, 0) j
  rw [this]
  simp [hj]
end Go.Proofs.Ythhaicledbcnmaa

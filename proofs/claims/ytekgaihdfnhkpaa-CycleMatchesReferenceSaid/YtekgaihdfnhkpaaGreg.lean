/- Contracts: intmath.Div and package gregorian. -/
import Derived.Test.YtekgaihdfnhkpaaCal
import Derived.Test.YtekgaihdfnhkpaaRows
import Derived.Deep.QuietTactic
import Derived.BigQuiet
set_option linter.unusedSimpArgs false
set_option linter.unusedVariables false
set_option linter.unusedSectionVars false
namespace Go.Proofs.Ytekgaihdfnhkpaa
open Go.ChangeShapes Go.WideShapes Go.ChangeAt Go.RowKit
set_option maxHeartbeats 400000

theorem emod_lem (a b : Int) : (b * (a / b)) + a % b = a := Int.mul_ediv_add_emod a b
theorem tmod_neg_bounds (a b : Int) (ha : a ≤ 0) (hb : 1 ≤ b) : -b < a.tmod b ∧ a.tmod b ≤ 0 := by
  have h := Int.mul_tdiv_add_tmod a b
  have h2 := (tdiv_neg_bounds a b ha hb).2.2.1
  have h3 := Int.lt_tmod_of_pos a (show 0 < b by omega)
  have h4 : a.tdiv b * b = b * a.tdiv b := Int.mul_comm _ _
  omega
theorem tmod_eq (a b : Int) (ha : a ≤ 0) (hb : 1 ≤ b) : (a.tmod b = 0 → a.tdiv b = a / b ∧ a.tmod b = a % b) ∧ (a.tmod b ≠ 0 → a.tdiv b - 1 = a / b ∧ a.tmod b + b = a % b) := by
  have h := Int.mul_tdiv_add_tmod a b
  have h1 := Int.mul_ediv_add_emod a b
  have h4 : a.tdiv b * b = b * a.tdiv b := Int.mul_comm _ _
  obtain ⟨h5, h6⟩ := tdiv_eq a b ha hb
  constructor
  · intro h0
    have e := h5 (by omega)
    exact ⟨e, by rw [← e] at h1; omega⟩
  · intro h0
    have e := h6 (by omega)
    refine ⟨e, ?_⟩
    rw [← e, Int.mul_sub, Int.mul_one] at h1
    omega
theorem lp_true (y : Int) : lp 2 y = decide (y % 4 = 0 ∧ (y % 100 ≠ 0 ∨ y % 400 = 0)) := rfl
theorem tmod_zero (y m : Int) (hm : 0 < m) : y % m = 0 ↔ y.tmod m = 0 := by
  rw [← Int.dvd_iff_emod_eq_zero, Int.dvd_iff_tmod_eq_zero]
/-- A Bool that the walk does not open. -/
def lpB (y : Int) : Bool := lp 2 y

end Go.Proofs.Ytekgaihdfnhkpaa

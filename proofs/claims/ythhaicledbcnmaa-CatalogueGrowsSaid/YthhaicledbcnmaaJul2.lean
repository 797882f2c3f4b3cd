/- Contracts: package julian, the date of a number. -/
import Derived.Test.YthhaicledbcnmaaJul
set_option linter.unusedSimpArgs false
set_option linter.unusedVariables false
set_option linter.unusedSectionVars false
namespace Go.Proofs.Ythhaicledbcnmaa
open Go.ChangeShapes Go.WideShapes Go.ChangeAt Go.RowKit
set_option maxHeartbeats 800000

/-- The year by division. -/
theorem yearJ_1 (n y : Int) (h : -1 ≤ n) (h1 : fst 1 y ≤ n) (h2 : n < fst 1 (y + 1)) (r : 3 < (n + 1) % 1461 / 365) : 4 * ((n + 1) / 1461) + 3 + 1 = y := by
  refine year_unique 1 n _ y ?_ ?_ h1 h2
  · unfold fst; simp only [if_true]; omega
  · unfold fst; simp only [if_true]; omega
theorem yearJ_2 (n y : Int) (h : -1 ≤ n) (h1 : fst 1 y ≤ n) (h2 : n < fst 1 (y + 1)) (r : ¬ 3 < (n + 1) % 1461 / 365) : 4 * ((n + 1) / 1461) + (n + 1) % 1461 / 365 + 1 = y := by
  refine year_unique 1 n _ y ?_ ?_ h1 h2
  · unfold fst; simp only [if_true]; omega
  · unfold fst; simp only [if_true]; omega
theorem yearJ (n y : Int) (h : -1 ≤ n) (h1 : fst 1 y ≤ n) (h2 : n < fst 1 (y + 1)) : 4 * ((n + 1) / 1461) + (if 3 < (n + 1) % 1461 / 365 then 3 else (n + 1) % 1461 / 365) + 1 = y := by
  split
  · exact yearJ_1 n y h h1 h2 (by assumption)
  · exact yearJ_2 n y h h1 h2 (by assumption)
end Go.Proofs.Ythhaicledbcnmaa

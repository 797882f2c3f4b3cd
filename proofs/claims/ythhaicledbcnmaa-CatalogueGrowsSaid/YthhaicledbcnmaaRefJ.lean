/- Contracts: reference 02. -/
import Derived.Test.YthhaicledbcnmaaRefG
import Derived.Test.YthhaicledbcnmaaRows
set_option linter.unusedSimpArgs false
set_option linter.unusedVariables false
set_option linter.unusedSectionVars false
namespace Go.Proofs.Ythhaicledbcnmaa
open Go.ChangeShapes Go.WideShapes Go.ChangeAt Go.RowKit
set_option maxHeartbeats 800000

/-- The search: the year lies between the bounds. -/
def SoughtJ (n lo hi : Int) : Prop := 1 ≤ lo ∧ lo ≤ hi ∧ hi ≤ 1000000000 ∧ fst 1 lo ≤ n ∧ n < fst 1 (hi + 1)

end Go.Proofs.Ythhaicledbcnmaa

/- Contracts: package label: On, Bears; slices.Index, Contains at ints. -/
import Derived.Test.YthhaicledbcnmaaLab
import Derived.Outline
set_option linter.unusedSimpArgs false
set_option linter.unusedVariables false
set_option linter.unusedSectionVars false
namespace Go.Proofs.Ythhaicledbcnmaa
open Go.ChangeShapes Go.WideShapes Go.ChangeAt Go.RowKit
set_option maxHeartbeats 800000

/-- The labels of the position p of the lunation l. -/
def onL (l p : Int) : List Int :=
  if l % 2 = 0 then (if p = 5 then [31, 25] else [30 - p]) else if p = 4 then [31, 26] else if p = 5 then [25, 24] else if 5 < p then [29 - p] else [30 - p]
end Go.Proofs.Ythhaicledbcnmaa

/- The cells of a date. -/
import Derived.Test.YtliomdnglhjfaaaDoorRows
import Derived.Lib.SmallJoins
set_option linter.unusedSimpArgs false
set_option linter.unusedVariables false
set_option linter.unusedSectionVars false
namespace Go.Proofs.YtliomdnglhjfaaaDoor
theorem cells_Date : Tryd.prog.cellsOf 23 = 3 := by kernel_rfl
end Go.Proofs.YtliomdnglhjfaaaDoor

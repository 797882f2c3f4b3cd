/- The cells of a date. -/
import Derived.Test.YtdmgnanpjkimlaaDoorRows
import Derived.Lib.SmallJoins
set_option linter.unusedSimpArgs false
set_option linter.unusedVariables false
set_option linter.unusedSectionVars false
namespace Go.Proofs.YtdmgnanpjkimlaaDoor
theorem cells_Date : Tryd.prog.cellsOf 23 = 3 := by kernel_rfl
end Go.Proofs.YtdmgnanpjkimlaaDoor

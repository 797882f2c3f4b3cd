/- Contracts: package easter: Date, Offset. -/
import Derived.Test.YtekgaihdfnhkpaaEas
import Derived.Outline
set_option linter.unusedSimpArgs false
set_option linter.unusedVariables false
set_option linter.unusedSectionVars false
namespace Go.Proofs.Ytekgaihdfnhkpaa
open Go.ChangeShapes Go.WideShapes Go.ChangeAt Go.RowKit
set_option maxHeartbeats 800000
set_option maxRecDepth 20000

/-- The date of Easter, or zeros. -/
def edY (c y : Int) : Int := if flE c y = 0 then y else 0
def edM (c y : Int) : Int := if flE c y = 0 then dmo (easI c y) else 0
def edD (c y : Int) : Int := if flE c y = 0 then dda (easI c y) else 0
theorem ed_fit (c y : Int) (h : flE c y = 0) : edY c y = y ∧ edM c y = dmo (easI c y) ∧ edD c y = dda (easI c y) := ⟨if_pos h, if_pos h, if_pos h⟩
theorem ed_no (c y : Int) (h : flE c y ≠ 0) : edY c y = 0 ∧ edM c y = 0 ∧ edD c y = 0 := ⟨if_neg h, if_neg h, if_neg h⟩
theorem esN_bounds (c y : Int) (h : Fit c y) : 0 ≤ esN c y ∧ esN c y ≤ 365250000100 := by
  have h1 := esN_val c y
  have h2 := easI_bounds c y
  have h3 := eqN_bounds c y (fit_cal c y h).2.1 (fit_cal c y h).2.2
  omega
def offV (c y m d : Int) : Int := if nmE c y m d = 0 then cN c y m d - esN c y else 0
end Go.Proofs.Ytekgaihdfnhkpaa

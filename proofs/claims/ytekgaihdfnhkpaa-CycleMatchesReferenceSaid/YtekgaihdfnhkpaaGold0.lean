/- Contracts: package golden; weekday.OnOrAfter. -/
import Derived.Test.YtekgaihdfnhkpaaCivS
set_option linter.unusedSimpArgs false
set_option linter.unusedVariables false
set_option linter.unusedSectionVars false
namespace Go.Proofs.Ytekgaihdfnhkpaa
open Go.ChangeShapes Go.WideShapes Go.ChangeAt Go.RowKit
set_option maxHeartbeats 800000

def glN (y : Int) : Int := y % 19 + 1
def ceN (y : Int) : Int := y / 100 + 1
def soN (y : Int) : Int := 3 * (y / 100 + 1) / 4 - 12
def luN (y : Int) : Int := (8 * (y / 100 + 1) + 5) / 25 - 5
theorem rGolden_ok (y : Int) (w : World) (h : 1 ≤ y) (h' : y ≤ 1000000000) :
    Calls Try.prog 67 #[.int .i64 y] w fun e w' => e = .returned (.int .i64 (glN y)) ∧ w = w' := by
  have HE := Lib.hid (show glN y = y - 19 * (y / 19) + 1 from by unfold glN; omega)
  go_enter Try.func67, Try.ntmps67
  go_wp2
  go_ret
  exact ⟨by rw [HE.out]; rfl, rfl⟩
theorem rSolar_ok (y : Int) (w : World) (h : 1 ≤ y) (h' : y ≤ 1000000000) :
    Calls Try.prog 71 #[.int .i64 y] w fun e w' => e = .returned (.int .i64 (soN y)) ∧ w = w' := by
  go_enter Try.func71, Try.ntmps71
  go_wp2
  go_ret
  exact ⟨rfl, rfl⟩
theorem rLunar_ok (y : Int) (w : World) (h : 1 ≤ y) (h' : y ≤ 1000000000) :
    Calls Try.prog 70 #[.int .i64 y] w fun e w' => e = .returned (.int .i64 (luN y)) ∧ w = w' := by
  go_enter Try.func70, Try.ntmps70
  go_wp2
  go_ret
  exact ⟨rfl, rfl⟩
end Go.Proofs.Ytekgaihdfnhkpaa

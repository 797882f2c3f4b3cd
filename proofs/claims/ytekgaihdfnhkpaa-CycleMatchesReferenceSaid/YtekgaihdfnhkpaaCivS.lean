/- Contracts: package civil: Shift; days of the week. -/
import Derived.Test.YtekgaihdfnhkpaaCiv
set_option linter.unusedSimpArgs false
set_option linter.unusedVariables false
set_option linter.unusedSectionVars false
namespace Go.Proofs.Ytekgaihdfnhkpaa
open Go.ChangeShapes Go.WideShapes Go.ChangeAt Go.RowKit
set_option maxHeartbeats 800000

theorem refToDay_ok (c y m d : Int) (w : World) (h : cE c y m d = 0) :
    Calls Try.prog 40 #[.int .i64 c, .agg #[.int .i64 y, .int .i64 m, .int .i64 d]] w fun e w' => e = .returned (.tuple #[.int .i64 (cN c y m d), .int .i64 0]) ∧ Kept w w' := by
  have := refToDay_all c y m d w
  rwa [h] at this
theorem cE_pos (c y m d : Int) (h : cE c y m d ≠ 0) : 1 ≤ cE c y m d := by
  rcases c_cases c y m d with ⟨_, _, _, h'⟩ | ⟨_, h', _⟩ <;> omega
theorem rWOf_any (n : Int) (w : World) (h : -9223372036854775808 ≤ n) (h' : n ≤ 9223372036854775807) :
    Calls Try.prog 42 #[.int .i64 n] w fun e w' => e = .returned (.int .i64 (n % 7)) ∧ w = w' := by
  go_enter Try.func42, Try.ntmps42
  go_wp2_with (go_at_call 55; refine (Mod_any _ _ _ h h' (by omega) (by omega)).mono ?_; rintro e w1 ⟨rfl, rfl⟩)
  go_ret
  exact ⟨rfl, rfl⟩
end Go.Proofs.Ytekgaihdfnhkpaa

/- Contract: reference 02, Length. -/
import Derived.Test.YtdmgnanpjkimlaaDoorCal
import Derived.Test.YtdmgnanpjkimlaaDoorRows
set_option linter.unusedSimpArgs false
set_option linter.unusedVariables false
set_option linter.unusedSectionVars false
namespace Go.Proofs.YtdmgnanpjkimlaaDoor
open Go.ChangeShapes Go.WideShapes Go.ChangeAt Go.RowKit
set_option maxHeartbeats 800000

theorem rLen_any (b : Bool) (m : Int) (w : World) :
    Calls Tryd.prog 42 #[.bool b, .int .i64 m] w fun e w' => e = .returned (.int .i64 (mlen b m)) ∧ w = w' := by
  by_cases h : m < 1 ∨ 12 < m
  · rw [mlen_out _ _ h]
    rcases h with h | h
    all_goals
      go_enter Tryd.func42, Tryd.ntmps42
      go_wp2
      go_ret
      exact ⟨rfl, rfl⟩
  · rcases month_cases m (by omega) (by omega) with rfl | rfl | rfl | rfl | rfl | rfl | rfl | rfl | rfl | rfl | rfl | rfl
    · go_enter Tryd.func42, Tryd.ntmps42
      go_wp2
      go_ret
      exact ⟨rfl, rfl⟩
    · cases b
      · go_enter Tryd.func42, Tryd.ntmps42
        go_wp2
        go_ret
        exact ⟨rfl, rfl⟩
      · go_enter Tryd.func42, Tryd.ntmps42
        go_wp2
        go_ret
        exact ⟨rfl, rfl⟩
    all_goals
      go_enter Tryd.func42, Tryd.ntmps42
      go_wp2
      go_ret
      exact ⟨rfl, rfl⟩
end Go.Proofs.YtdmgnanpjkimlaaDoor

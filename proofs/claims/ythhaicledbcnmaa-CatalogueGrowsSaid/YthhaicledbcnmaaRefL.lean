/- Contract: reference 02, Length. -/
import Derived.Test.YthhaicledbcnmaaCal
import Derived.Test.YthhaicledbcnmaaRows
set_option linter.unusedSimpArgs false
set_option linter.unusedVariables false
set_option linter.unusedSectionVars false
namespace Go.Proofs.Ythhaicledbcnmaa
open Go.ChangeShapes Go.WideShapes Go.ChangeAt Go.RowKit
set_option maxHeartbeats 800000

theorem rLen_any (b : Bool) (m : Int) (w : World) :
    Calls Try.prog 29 #[.bool b, .int .i64 m] w fun e w' => e = .returned (.int .i64 (mlen b m)) ∧ w = w' := by
  by_cases h : m < 1 ∨ 12 < m
  · rw [mlen_out _ _ h]
    rcases h with h | h
    all_goals
      go_enter Try.func29, Try.ntmps29
      go_wp2
      go_ret
      exact ⟨rfl, rfl⟩
  · rcases month_cases m (by omega) (by omega) with rfl | rfl | rfl | rfl | rfl | rfl | rfl | rfl | rfl | rfl | rfl | rfl
    · go_enter Try.func29, Try.ntmps29
      go_wp2
      go_ret
      exact ⟨rfl, rfl⟩
    · cases b
      · go_enter Try.func29, Try.ntmps29
        go_wp2
        go_ret
        exact ⟨rfl, rfl⟩
      · go_enter Try.func29, Try.ntmps29
        go_wp2
        go_ret
        exact ⟨rfl, rfl⟩
    all_goals
      go_enter Try.func29, Try.ntmps29
      go_wp2
      go_ret
      exact ⟨rfl, rfl⟩
end Go.Proofs.Ythhaicledbcnmaa

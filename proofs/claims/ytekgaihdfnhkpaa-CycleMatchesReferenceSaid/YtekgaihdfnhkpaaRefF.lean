/- Contracts: references 06 (InGregorian), 07 (Fails). -/
import Derived.Test.YtekgaihdfnhkpaaRefA
set_option linter.unusedSimpArgs false
set_option linter.unusedVariables false
set_option linter.unusedSectionVars false
namespace Go.Proofs.Ytekgaihdfnhkpaa
open Go.ChangeShapes Go.WideShapes Go.ChangeAt Go.RowKit
set_option maxHeartbeats 400000

theorem InG_yes (y : Int) (w : World) (h : 1583 ≤ y) (h' : y ≤ 1000000000) :
    Calls Try.prog 13 #[.int .i64 y] w fun e w' => e = .returned (.bool true) ∧ w = w' := by
  go_enter Try.func13, Try.ntmps13
  go_wp2
  go_ret
  exact ⟨by first | rfl | (simp; done) | (simp; omega), rfl⟩

theorem InG_no (y : Int) (w : World) (h : y < 1583 ∨ 1000000000 < y) :
    Calls Try.prog 13 #[.int .i64 y] w fun e w' => e = .returned (.bool false) ∧ w = w' := by
  go_enter Try.func13, Try.ntmps13
  go_wp2
  all_goals go_ret
  all_goals exact ⟨by first | rfl | (simp; done) | (simp; omega), rfl⟩

theorem Fails_arg (k y : Int) (w : World) (h : k < 1 ∨ 2 < k) :
    Calls Try.prog 27 #[.int .i64 k, .int .i64 y] w fun e w' => e = .returned (.int .i64 3) ∧ w = w' := by
  go_enter Try.func27, Try.ntmps27
  rcases h with h | h
  all_goals
    go_wp2
    go_ret
    exact ⟨rfl, rfl⟩

/-- A calendar and a year that has an Easter in it. -/
def Fit (k y : Int) : Prop := (k = 1 ∧ 1 ≤ y ∨ k = 2 ∧ 1583 ≤ y) ∧ y ≤ 1000000000
/-- A calendar, and a year outside of its range. -/
def Off (k y : Int) : Prop := k = 1 ∧ (y < 1 ∨ 1000000000 < y) ∨ k = 2 ∧ (y < 1583 ∨ 1000000000 < y)
theorem three_ways (k y : Int) : (k < 1 ∨ 2 < k) ∨ Off k y ∨ Fit k y := by unfold Off Fit; omega

theorem Fails_off (k y : Int) (w : World) (h : Off k y) :
    Calls Try.prog 27 #[.int .i64 k, .int .i64 y] w fun e w' => e = .returned (.int .i64 1) ∧ w = w' := by
  unfold Off at h
  rcases h with ⟨rfl, h⟩ | ⟨rfl, h⟩
  · go_enter Try.func27, Try.ntmps27
    go_wp2_with (first | (go_at_call 12; refine (In_no _ _ (by omega)).mono ?_; rintro e w' ⟨rfl, rfl⟩))
    go_ret
    exact ⟨rfl, rfl⟩
  · go_enter Try.func27, Try.ntmps27
    go_wp2_with (first | (go_at_call 13; refine (InG_no _ _ (by omega)).mono ?_; rintro e w' ⟨rfl, rfl⟩))
    go_ret
    exact ⟨rfl, rfl⟩

theorem Fails_ok (k y : Int) (w : World) (h : Fit k y) :
    Calls Try.prog 27 #[.int .i64 k, .int .i64 y] w fun e w' => e = .returned (.int .i64 0) ∧ w = w' := by
  unfold Fit at h
  rcases h with ⟨⟨rfl, h⟩ | ⟨rfl, h⟩, h'⟩
  · go_enter Try.func27, Try.ntmps27
    go_wp2_with (first | (go_at_call 12; refine (In_yes _ _ (by omega) (by omega)).mono ?_; rintro e w' ⟨rfl, rfl⟩))
    go_ret
    exact ⟨rfl, rfl⟩
  · go_enter Try.func27, Try.ntmps27
    go_wp2_with (first | (go_at_call 13; refine (InG_yes _ _ (by omega) (by omega)).mono ?_; rintro e w' ⟨rfl, rfl⟩))
    go_ret
    exact ⟨rfl, rfl⟩
end Go.Proofs.Ytekgaihdfnhkpaa

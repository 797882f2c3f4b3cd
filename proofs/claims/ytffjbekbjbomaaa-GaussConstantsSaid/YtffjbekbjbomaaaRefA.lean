/- Contracts: references 01, 02 (In), 06 (InGregorian), 07 (Fails). -/
import Derived.Test.YtffjbekbjbomaaaLib
import Derived.Test.YtffjbekbjbomaaaRows
set_option linter.unusedSimpArgs false
set_option linter.unusedVariables false
set_option linter.unusedSectionVars false
namespace Go.Proofs.Ytffjbekbjbomaaa
open Go.ChangeShapes Go.WideShapes Go.ChangeAt Go.RowKit
set_option maxHeartbeats 400000

theorem own_knob : ownKnob Try.prog.godebug = none := by kernel_rfl
theorem Div_nn (a b : Int) (w : World) (ha : 0 ≤ a) (ha' : a ≤ 4611686018427387904) (hb : 1 ≤ b) (hb' : b ≤ 4611686018427387904) :
    Calls Try.prog 23 #[.int .i64 a, .int .i64 b] w fun e w' => e = .returned (.int .i64 (a / b)) ∧ w = w' := by
  have h0 : 0 ≤ a / b := Int.ediv_nonneg ha (by omega)
  have h1 : a / b * b ≤ a := (ediv_bounds _ _ hb).1
  have h2 : 0 ≤ a / b * b := Int.mul_nonneg h0 (by omega)
  have h3 : decide (a < 0) = false := by simp; omega
  have h4 : decide (b < 0) = false := by simp; omega
  go_enter Try.func23, Try.ntmps23
  go_wp2
  all_goals go_ret
  all_goals exact ⟨rfl, rfl⟩

theorem Div_neg (a b : Int) (w : World) (ha : a < 0) (ha' : -4611686018427387904 ≤ a) (hb : 1 ≤ b) (hb' : b ≤ 4611686018427387904) :
    Calls Try.prog 23 #[.int .i64 a, .int .i64 b] w fun e w' => e = .returned (.int .i64 (a / b)) ∧ w = w' := by
  obtain ⟨h0, h1, h2, h5⟩ := tdiv_neg_bounds a b (by omega) hb
  obtain ⟨h6, h7⟩ := tdiv_eq a b (by omega) hb
  have H6 := Lib.hid h6
  have H7 := Lib.hid h7
  clear h6 h7
  have h3 : decide (a < 0) = true := by simp; omega
  have h4 : decide (b < 0) = false := by simp; omega
  go_enter Try.func23, Try.ntmps23
  go_wp2
  · rename_i h
    go_ret
    exact ⟨ret_int (H6.out h), rfl⟩
  · rename_i h _
    go_ret
    exact ⟨ret_int (H7.out h), rfl⟩

theorem Div_any (a b : Int) (w : World) (ha : -4611686018427387904 ≤ a) (ha' : a ≤ 4611686018427387904) (hb : 1 ≤ b) (hb' : b ≤ 4611686018427387904) :
    Calls Try.prog 23 #[.int .i64 a, .int .i64 b] w fun e w' => e = .returned (.int .i64 (a / b)) ∧ w = w' := by
  by_cases h : 0 ≤ a
  · exact Div_nn a b w h ha' hb hb'
  · exact Div_neg a b w (by omega) ha hb hb'

theorem Mod_any (a b : Int) (w : World) (ha : -4611686018427387904 ≤ a) (ha' : a ≤ 4611686018427387904) (hb : 1 ≤ b) (hb' : b ≤ 4611686018427387904) :
    Calls Try.prog 22 #[.int .i64 a, .int .i64 b] w fun e w' => e = .returned (.int .i64 (a % b)) ∧ w = w' := by
  have h0 := Int.emod_nonneg a (show b ≠ 0 by omega)
  have h1 := Int.emod_lt_of_pos a (show 0 < b by omega)
  have h2 := emod_def' a b
  have h3 : -9223372036854775808 ≤ b * (a / b) := by omega
  have h4 : b * (a / b) ≤ 9223372036854775807 := by omega
  have h5 : 0 ≤ a - b * (a / b) := by omega
  have h6 : a - b * (a / b) ≤ 9223372036854775807 := by omega
  have H2 := Lib.hid h2
  clear h2 h0 h1
  go_enter Try.func22, Try.ntmps22
  go_wp2_with (go_at_call 23; refine (Div_any _ _ _ (by omega) (by omega) (by omega) (by omega)).mono ?_; rintro e w' ⟨rfl, rfl⟩)
  go_ret
  exact ⟨ret_int H2.out, rfl⟩

theorem In_yes (y : Int) (w : World) (h : 1 ≤ y) (h' : y ≤ 1000000000) :
    Calls Try.prog 20 #[.int .i64 y] w fun e w' => e = .returned (.bool true) ∧ w = w' := by
  have h3 : decide (y ≤ 1000000000) = true := by simp; omega
  go_enter Try.func20, Try.ntmps20
  go_wp2
  go_ret
  exact ⟨by first | rfl | (simp; done) | (simp; omega), rfl⟩

theorem In_no (y : Int) (w : World) (h : y < 1 ∨ 1000000000 < y) :
    Calls Try.prog 20 #[.int .i64 y] w fun e w' => e = .returned (.bool false) ∧ w = w' := by
  go_enter Try.func20, Try.ntmps20
  go_wp2
  all_goals go_ret
  all_goals exact ⟨by first | rfl | (simp; done) | (simp; omega), rfl⟩

theorem InG_yes (y : Int) (w : World) (h : 1583 ≤ y) (h' : y ≤ 1000000000) :
    Calls Try.prog 21 #[.int .i64 y] w fun e w' => e = .returned (.bool true) ∧ w = w' := by
  go_enter Try.func21, Try.ntmps21
  go_wp2
  go_ret
  exact ⟨by first | rfl | (simp; done) | (simp; omega), rfl⟩

theorem InG_no (y : Int) (w : World) (h : y < 1583 ∨ 1000000000 < y) :
    Calls Try.prog 21 #[.int .i64 y] w fun e w' => e = .returned (.bool false) ∧ w = w' := by
  go_enter Try.func21, Try.ntmps21
  go_wp2
  all_goals go_ret
  all_goals exact ⟨by first | rfl | (simp; done) | (simp; omega), rfl⟩

theorem Fails_arg (k y : Int) (w : World) (h : k < 1 ∨ 2 < k) :
    Calls Try.prog 11 #[.int .i64 k, .int .i64 y] w fun e w' => e = .returned (.int .i64 3) ∧ w = w' := by
  go_enter Try.func11, Try.ntmps11
  rcases h with h | h
  all_goals
    go_wp2
    go_ret
    exact ⟨rfl, rfl⟩

/-- A calendar and a year that has an Easter in it. -/
def Fit (k y : Int) : Prop := (k = 1 ∧ 1 ≤ y ∨ k = 2 ∧ 1583 ≤ y) ∧ y ≤ 1000000000
/-- A calendar, and a year outside of its range. -/
def Off (k y : Int) : Prop := k = 1 ∧ (y < 1 ∨ 1000000000 < y) ∨ k = 2 ∧ (y < 1583 ∨ 1000000000 < y)
theorem three_ways (k y : Int) : (k < 1 ∨ 2 < k) ∨ Off k y ∨ Fit k y := by unfold Off Fit; omega

theorem Fails_off (k y : Int) (w : World) (h : Off k y) :
    Calls Try.prog 11 #[.int .i64 k, .int .i64 y] w fun e w' => e = .returned (.int .i64 1) ∧ w = w' := by
  unfold Off at h
  rcases h with ⟨rfl, h⟩ | ⟨rfl, h⟩
  · go_enter Try.func11, Try.ntmps11
    go_wp2_with (first | (go_at_call 20; refine (In_no _ _ (by omega)).mono ?_; rintro e w' ⟨rfl, rfl⟩))
    go_ret
    exact ⟨rfl, rfl⟩
  · go_enter Try.func11, Try.ntmps11
    go_wp2_with (first | (go_at_call 21; refine (InG_no _ _ (by omega)).mono ?_; rintro e w' ⟨rfl, rfl⟩))
    go_ret
    exact ⟨rfl, rfl⟩

theorem Fails_ok (k y : Int) (w : World) (h : Fit k y) :
    Calls Try.prog 11 #[.int .i64 k, .int .i64 y] w fun e w' => e = .returned (.int .i64 0) ∧ w = w' := by
  unfold Fit at h
  rcases h with ⟨⟨rfl, h⟩ | ⟨rfl, h⟩, h'⟩
  · go_enter Try.func11, Try.ntmps11
    go_wp2_with (first | (go_at_call 20; refine (In_yes _ _ (by omega) (by omega)).mono ?_; rintro e w' ⟨rfl, rfl⟩))
    go_ret
    exact ⟨rfl, rfl⟩
  · go_enter Try.func11, Try.ntmps11
    go_wp2_with (first | (go_at_call 21; refine (InG_yes _ _ (by omega) (by omega)).mono ?_; rintro e w' ⟨rfl, rfl⟩))
    go_ret
    exact ⟨rfl, rfl⟩
end Go.Proofs.Ytffjbekbjbomaaa

/- Contracts: references 01, 02 (In). -/
import Derived.Test.YthhaicledbcnmaaLib
import Derived.Test.YthhaicledbcnmaaRows
set_option linter.unusedSimpArgs false
set_option linter.unusedVariables false
set_option linter.unusedSectionVars false
namespace Go.Proofs.Ythhaicledbcnmaa
open Go.ChangeShapes Go.WideShapes Go.ChangeAt Go.RowKit
set_option maxHeartbeats 400000

theorem own_knob : ownKnob Try.prog.godebug = none := by kernel_rfl
theorem Div_nn (a b : Int) (w : World) (ha : 0 ≤ a) (ha' : a ≤ 9223372036854775807) (hb : 1 ≤ b) (hb' : b ≤ 4611686018427387904) :
    Calls Try.prog 36 #[.int .i64 a, .int .i64 b] w fun e w' => e = .returned (.int .i64 (a / b)) ∧ w = w' := by
  have h0 : 0 ≤ a / b := Int.ediv_nonneg ha (by omega)
  have h1 : a / b * b ≤ a := (ediv_bounds _ _ hb).1
  have h2 : 0 ≤ a / b * b := Int.mul_nonneg h0 (by omega)
  have h3 : decide (a < 0) = false := by simp; omega
  have h4 : decide (b < 0) = false := by simp; omega
  go_enter Try.func36, Try.ntmps36
  go_wp2
  all_goals go_ret
  all_goals exact ⟨rfl, rfl⟩

theorem ediv_low (a b : Int) (ha : a < 0) (hb : 1 ≤ b) : a ≤ a / b ∧ a / b < 0 := by
  obtain ⟨h1, h2, _, _⟩ := tdiv_neg_bounds a b (by omega) hb
  obtain ⟨h3, h4⟩ := ediv_bounds a b hb
  constructor
  · by_cases h : a / b < a
    · have h5 : a / b * b ≤ (a - 1) * b := Int.mul_le_mul_of_nonneg_right (by omega) (by omega)
      have h6 : (a - 1) * b = a * b - b := by rw [Int.sub_mul, Int.one_mul]
      have h7 : a * b ≤ a * 1 := Int.mul_le_mul_of_nonpos_left (by omega) (by omega)
      omega
    · omega
  · by_cases h : 0 ≤ a / b
    · have := Int.mul_nonneg h (show 0 ≤ b by omega); omega
    · omega
theorem Div_neg (a b : Int) (w : World) (ha : a < 0) (ha' : -9223372036854775808 ≤ a) (hb : 1 ≤ b) (hb' : b ≤ 4611686018427387904) :
    Calls Try.prog 36 #[.int .i64 a, .int .i64 b] w fun e w' => e = .returned (.int .i64 (a / b)) ∧ w = w' := by
  obtain ⟨h0, h1, h2, h5⟩ := tdiv_neg_bounds a b (by omega) hb
  obtain ⟨h6, h7⟩ := tdiv_eq a b (by omega) hb
  have H6 := Lib.hid h6
  have H7 := Lib.hid h7
  clear h6 h7
  have h3 : decide (a < 0) = true := by simp; omega
  have h4 : decide (b < 0) = false := by simp; omega
  go_enter Try.func36, Try.ntmps36
  go_wp2
  · rename_i h
    go_ret
    exact ⟨ret_int (H6.out h), rfl⟩
  · rename_i h _
    go_ret
    have h8 := H7.out h
    have h9 := ediv_low a b ha hb
    exact ⟨ret_int (by rw [h8]; unfold wrap64; omega), rfl⟩

theorem Div_any (a b : Int) (w : World) (ha : -9223372036854775808 ≤ a) (ha' : a ≤ 9223372036854775807) (hb : 1 ≤ b) (hb' : b ≤ 4611686018427387904) :
    Calls Try.prog 36 #[.int .i64 a, .int .i64 b] w fun e w' => e = .returned (.int .i64 (a / b)) ∧ w = w' := by
  by_cases h : 0 ≤ a
  · exact Div_nn a b w h ha' hb hb'
  · exact Div_neg a b w (by omega) ha hb hb'

theorem mod_wraps (a b : Int) (ha : -9223372036854775808 ≤ a) (ha' : a ≤ 9223372036854775807) (hb : 1 ≤ b) (hb' : b ≤ 4611686018427387904) : wrap64 (a - wrap64 (b * (a / b))) = a % b := by
  have h0 := Int.emod_nonneg a (show b ≠ 0 by omega)
  have h1 := Int.emod_lt_of_pos a (show 0 < b by omega)
  have h2 := emod_def' a b
  generalize b * (a / b) = t at *
  unfold wrap64
  omega
theorem Mod_any (a b : Int) (w : World) (ha : -9223372036854775808 ≤ a) (ha' : a ≤ 9223372036854775807) (hb : 1 ≤ b) (hb' : b ≤ 4611686018427387904) :
    Calls Try.prog 35 #[.int .i64 a, .int .i64 b] w fun e w' => e = .returned (.int .i64 (a % b)) ∧ w = w' := by
  have H2 := Lib.hid (mod_wraps a b ha ha' hb hb')
  go_enter Try.func35, Try.ntmps35
  go_wp2_with (go_at_call 36; refine (Div_any _ _ _ (by omega) (by omega) (by omega) (by omega)).mono ?_; rintro e w' ⟨rfl, rfl⟩)
  go_ret
  exact ⟨ret_int H2.out, rfl⟩

theorem In_yes (y : Int) (w : World) (h : 1 ≤ y) (h' : y ≤ 1000000000) :
    Calls Try.prog 32 #[.int .i64 y] w fun e w' => e = .returned (.bool true) ∧ w = w' := by
  have h3 : decide (y ≤ 1000000000) = true := by simp; omega
  go_enter Try.func32, Try.ntmps32
  go_wp2
  go_ret
  exact ⟨by first | rfl | (simp; done) | (simp; omega), rfl⟩

theorem In_no (y : Int) (w : World) (h : y < 1 ∨ 1000000000 < y) :
    Calls Try.prog 32 #[.int .i64 y] w fun e w' => e = .returned (.bool false) ∧ w = w' := by
  go_enter Try.func32, Try.ntmps32
  go_wp2
  all_goals go_ret
  all_goals exact ⟨by first | rfl | (simp; done) | (simp; omega), rfl⟩
end Go.Proofs.Ythhaicledbcnmaa

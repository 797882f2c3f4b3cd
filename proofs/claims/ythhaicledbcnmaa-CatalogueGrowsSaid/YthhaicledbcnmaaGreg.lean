/- Contracts: intmath.Div and package gregorian. -/
import Derived.Test.YthhaicledbcnmaaCal
import Derived.Test.YthhaicledbcnmaaRows
import Derived.Deep.QuietTactic
import Derived.BigQuiet
set_option linter.unusedSimpArgs false
set_option linter.unusedVariables false
set_option linter.unusedSectionVars false
namespace Go.Proofs.Ythhaicledbcnmaa
open Go.ChangeShapes Go.WideShapes Go.ChangeAt Go.RowKit
set_option maxHeartbeats 400000

theorem emod_lem (a b : Int) : (b * (a / b)) + a % b = a := Int.mul_ediv_add_emod a b
theorem tmod_neg_bounds (a b : Int) (ha : a ≤ 0) (hb : 1 ≤ b) : -b < a.tmod b ∧ a.tmod b ≤ 0 := by
  have h := Int.mul_tdiv_add_tmod a b
  have h2 := (tdiv_neg_bounds a b ha hb).2.2.1
  have h3 := Int.lt_tmod_of_pos a (show 0 < b by omega)
  have h4 : a.tdiv b * b = b * a.tdiv b := Int.mul_comm _ _
  omega
theorem tmod_eq (a b : Int) (ha : a ≤ 0) (hb : 1 ≤ b) : (a.tmod b = 0 → a.tdiv b = a / b ∧ a.tmod b = a % b) ∧ (a.tmod b ≠ 0 → a.tdiv b - 1 = a / b ∧ a.tmod b + b = a % b) := by
  have h := Int.mul_tdiv_add_tmod a b
  have h1 := Int.mul_ediv_add_emod a b
  have h4 : a.tdiv b * b = b * a.tdiv b := Int.mul_comm _ _
  obtain ⟨h5, h6⟩ := tdiv_eq a b ha hb
  constructor
  · intro h0
    have e := h5 (by omega)
    exact ⟨e, by rw [← e] at h1; omega⟩
  · intro h0
    have e := h6 (by omega)
    refine ⟨e, ?_⟩
    rw [← e, Int.mul_sub, Int.mul_one] at h1
    omega
theorem lp_true (y : Int) : lp 2 y = decide (y % 4 = 0 ∧ (y % 100 ≠ 0 ∨ y % 400 = 0)) := rfl
theorem tmod_zero (y m : Int) (hm : 0 < m) : y % m = 0 ↔ y.tmod m = 0 := by
  rw [← Int.dvd_iff_emod_eq_zero, Int.dvd_iff_tmod_eq_zero]
theorem Leap_any (y : Int) (w : World) :
    Calls Try.prog 55 #[.int .i64 y] w fun e w' => e = .returned (.bool (lp 2 y)) ∧ w = w' := by
  have hl := lp_true y
  have HL := Lib.hid hl
  have H4 := Lib.hid (tmod_zero y 4 (by omega))
  have H1 := Lib.hid (tmod_zero y 100 (by omega))
  have H5 := Lib.hid (tmod_zero y 400 (by omega))
  clear hl
  by_cases h : 0 ≤ y
  · go_enter Try.func55, Try.ntmps55
    go_wp2
    all_goals go_ret
    all_goals refine ⟨ret_bool ?_, rfl⟩
    all_goals rw [HL.out, Bool.eq_iff_iff]
    all_goals simp
    all_goals omega
  · go_enter Try.func55, Try.ntmps55
    go_wp2
    all_goals go_ret
    all_goals refine ⟨ret_bool ?_, rfl⟩
    all_goals rw [HL.out, Bool.eq_iff_iff]
    all_goals have a4 := H4.out
    all_goals have a1 := H1.out
    all_goals have a5 := H5.out
    all_goals simp [a4, a1, a5, *]
/-- A Bool that the walk does not open. -/
def lpB (y : Int) : Bool := lp 2 y

theorem Length_out (y m : Int) (w : World) (h : m < 1 ∨ 12 < m) :
    Calls Try.prog 54 #[.int .i64 y, .int .i64 m] w fun e w' => e = .returned (.int .i64 0) ∧ w = w' := by
  rcases h with h | h
  all_goals
    go_enter Try.func54, Try.ntmps54
    go_wp2_with (go_at_call 55; (with_reducible refine (Leap_any _ _).mono ?_); rintro e w1 ⟨rfl, rfl⟩)
    go_ret
    exact ⟨rfl, rfl⟩
theorem Length_in (y m : Int) (w : World) (h : 1 ≤ m) (h' : m ≤ 12) :
    Calls Try.prog 54 #[.int .i64 y, .int .i64 m] w fun e w' => e = .returned (.int .i64 (mlen (lp 2 y) m)) ∧ w = w' := by
  by_cases h2 : m = 2
  · subst h2
    cases hl : lp 2 y
    · have HL := fun w => Leap_any y w
      rw [hl] at HL
      have KL := Lib.hid HL
      clear HL hl
      go_enter Try.func54, Try.ntmps54
      go_wp2_with (go_at_call 55; (with_reducible refine (KL.out _).mono ?_); rintro e w1 ⟨rfl, rfl⟩)
      go_ret
      exact ⟨rfl, rfl⟩
    · have HL := fun w => Leap_any y w
      rw [hl] at HL
      have KL := Lib.hid HL
      clear HL hl
      go_enter Try.func54, Try.ntmps54
      go_wp2_with (go_at_call 55; (with_reducible refine (KL.out _).mono ?_); rintro e w1 ⟨rfl, rfl⟩)
      go_ret
      exact ⟨rfl, rfl⟩
  · have hm : mlen (lp 2 y) m = 30 + (m + m / 8) % 2 := by unfold mlen; rw [if_neg (by omega), if_neg h2]
    have HM := Lib.hid hm
    have h3 : (m == 2) = false := by simpa using h2
    clear hm h2
    go_enter Try.func54, Try.ntmps54
    go_wp2_with (go_at_call 55; (with_reducible refine (Leap_any _ _).mono ?_); rintro e w1 ⟨rfl, rfl⟩)
    go_ret
    exact ⟨by rw [HM.out]; rfl, rfl⟩
theorem Length_any (y m : Int) (w : World) :
    Calls Try.prog 54 #[.int .i64 y, .int .i64 m] w fun e w' => e = .returned (.int .i64 (mlen (lp 2 y) m)) ∧ w = w' := by
  by_cases h : m < 1 ∨ 12 < m
  · rw [mlen_out _ _ h]; exact Length_out y m w h
  · exact Length_in y m w (by omega) (by omega)
theorem inR_yes (y : Int) (w : World) (h : 1 ≤ y) (h' : y ≤ 1000000000) :
    Calls Try.prog 62 #[.int .i64 y] w fun e w' => e = .returned (.bool true) ∧ w = w' := by
  have h3 : decide (y ≤ 1000000000) = true := by simp; omega
  go_enter Try.func62, Try.ntmps62
  go_wp2
  go_ret
  exact ⟨by first | rfl | (simp; done) | (simp; omega), rfl⟩
theorem inR_no (y : Int) (w : World) (h : y < 1 ∨ 1000000000 < y) :
    Calls Try.prog 62 #[.int .i64 y] w fun e w' => e = .returned (.bool false) ∧ w = w' := by
  go_enter Try.func62, Try.ntmps62
  go_wp2
  all_goals go_ret
  all_goals exact ⟨by first | rfl | (simp; done) | (simp; omega), rfl⟩
theorem first_any (y : Int) (w : World) (h : 1 ≤ y) (h' : y ≤ 1000000001) :
    Calls Try.prog 63 #[.int .i64 y] w fun e w' => e = .returned (.int .i64 (fst 2 y)) ∧ w = w' := by
  go_enter Try.func63, Try.ntmps63
  go_wp2
  go_ret
  exact ⟨rfl, rfl⟩
theorem First_ok (y : Int) (w : World) (h : 1 ≤ y) (h' : y ≤ 1000000000) :
    Calls Try.prog 60 #[.int .i64 y] w fun e w' => e = .returned (.tuple #[.int .i64 (fst 2 y), .int .i64 0]) ∧ w = w' := by
  go_enter Try.func60, Try.ntmps60
  go_wp2_with (first | (go_at_call 62; refine (inR_yes _ _ h h').mono ?_; rintro e w1 ⟨rfl, rfl⟩) | (go_at_call 63; refine (first_any _ _ (by omega) (by omega)).mono ?_; rintro e w1 ⟨rfl, rfl⟩))
  go_ret2
  exact ⟨rfl, rfl⟩
theorem First_no (y : Int) (w : World) (h : y < 1 ∨ 1000000000 < y) :
    Calls Try.prog 60 #[.int .i64 y] w fun e w' => e = .returned (.tuple #[.int .i64 0, .int .i64 1]) ∧ w = w' := by
  go_enter Try.func60, Try.ntmps60
  go_wp2_with (first | (go_at_call 62; refine (inR_no _ _ h).mono ?_; rintro e w1 ⟨rfl, rfl⟩))
  go_ret2
  exact ⟨rfl, rfl⟩
end Go.Proofs.Ythhaicledbcnmaa

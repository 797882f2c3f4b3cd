/- Contracts: intmath.Div and package gregorian. -/
import Derived.Test.YtdmgnanpjkimlaaDoorCal
import Derived.Test.YtdmgnanpjkimlaaDoorRows
import Derived.Deep.QuietTactic
import Derived.BigQuiet
set_option linter.unusedSimpArgs false
set_option linter.unusedVariables false
set_option linter.unusedSectionVars false
namespace Go.Proofs.YtdmgnanpjkimlaaDoor
open Go.ChangeShapes Go.WideShapes Go.ChangeAt Go.RowKit
set_option maxHeartbeats 400000

/-- Floored division. -/
theorem split_nn (a b : Int) (w : World) (ha : 0 ≤ a) (ha' : a ≤ 4611686018427387904) (hb : 1 ≤ b) (hb' : b ≤ 4611686018427387904) :
    Calls Tryd.prog 81 #[.int .i64 a, .int .i64 b] w fun e w' => e = .returned (.tuple #[.int .i64 (a / b), .int .i64 (a % b), .bool true]) ∧ w.drew = w' := by
  have h0 : 0 ≤ a / b := Int.ediv_nonneg ha (by omega)
  have h1 : 0 ≤ a % b := Int.emod_nonneg _ (by omega)
  have h2 : a % b < b := Int.emod_lt_of_pos _ (by omega)
  have h3 : decide (a % b < 0) = false := by simp; omega
  have h4 : decide (b < 0) = false := by simp; omega
  go_enter Tryd.func81, Tryd.ntmps81
  go_wp2
  go_region
  go_wp2
  all_goals go_ret3
  all_goals first | exact ⟨rfl, rfl⟩ | exact ⟨by simp [*], rfl⟩
theorem emod_lem (a b : Int) : (b * (a / b)) + a % b = a := Int.mul_ediv_add_emod a b
theorem tmod_neg_bounds (a b : Int) (ha : a ≤ 0) (hb : 1 ≤ b) : -b < a.tmod b ∧ a.tmod b ≤ 0 := by
  have h := Int.mul_tdiv_add_tmod a b
  have h2 := (tdiv_neg_bounds a b ha hb).2.2.1
  have h3 := Int.lt_tmod_of_pos a (show 0 < b by omega)
  have h4 : a.tdiv b * b = b * a.tdiv b := Int.mul_comm _ _
  omega
theorem tmod_eq (a b : Int) (ha : a ≤ 0) (hb : 1 ≤ b) : (a.tmod b = 0 → a.tdiv b = a / b ∧ a.tmod b = a % b) ∧ (a.tmod b ≠ 0 → a.tdiv b - 1 = a / b ∧ a.tmod b + b = a % b) := by
  have h := Int.mul_tdiv_add_tmod a b
  have h1 := Int.mul_ediv_add_emod a b
  have h4 : a.tdiv b * b = b * a.tdiv b := Int.mul_comm _ _
  obtain ⟨h5, h6⟩ := tdiv_eq a b ha hb
  constructor
  · intro h0
    have e := h5 (by omega)
    exact ⟨e, by rw [← e] at h1; omega⟩
  · intro h0
    have e := h6 (by omega)
    refine ⟨e, ?_⟩
    rw [← e, Int.mul_sub, Int.mul_one] at h1
    omega
theorem split_neg (a b : Int) (w : World) (ha : a < 0) (ha' : -4611686018427387904 ≤ a) (hb : 1 ≤ b) (hb' : b ≤ 4611686018427387904) :
    Calls Tryd.prog 81 #[.int .i64 a, .int .i64 b] w fun e w' => e = .returned (.tuple #[.int .i64 (a / b), .int .i64 (a % b), .bool true]) ∧ w.drew = w' := by
  obtain ⟨h0, h1, _, _⟩ := tdiv_neg_bounds a b (by omega) hb
  obtain ⟨h2, h3⟩ := tmod_neg_bounds a b (by omega) hb
  obtain ⟨h6, h7⟩ := tmod_eq a b (by omega) hb
  have h4 : decide (b < 0) = false := by simp; omega
  by_cases hz : a.tmod b = 0
  · obtain ⟨h8, h9⟩ := h6 hz
    have H8 := Lib.hid h8
    clear h6 h7
    have H0 := Lib.hid (h9.symm.trans hz)
    have hz' : 0 ≤ a.tmod b := by omega
    clear hz h8 h9
    go_enter Tryd.func81, Tryd.ntmps81
    go_wp2
    go_region
    go_wp2
    go_ret3
    exact ⟨by rw [H0.out, ← H8.out]; rfl, rfl⟩
  · obtain ⟨h8, h9⟩ := h7 hz
    have H8 := Lib.hid h8
    have H9 := Lib.hid h9
    clear h6 h7 h8 h9
    have h5 : decide (a.tmod b < 0) = true := by simp; omega
    go_enter Tryd.func81, Tryd.ntmps81
    go_wp2
    go_region
    go_wp2
    go_ret3
    exact ⟨by rw [← H8.out, ← H9.out]; rfl, rfl⟩
theorem split_any (a b : Int) (w : World) (ha : -4611686018427387904 ≤ a) (ha' : a ≤ 4611686018427387904) (hb : 1 ≤ b) (hb' : b ≤ 4611686018427387904) :
    Calls Tryd.prog 81 #[.int .i64 a, .int .i64 b] w fun e w' => e = .returned (.tuple #[.int .i64 (a / b), .int .i64 (a % b), .bool true]) ∧ w.drew = w' := by
  by_cases h : 0 ≤ a
  · exact split_nn a b w h ha' hb hb'
  · exact split_neg a b w (by omega) ha hb hb'
theorem IDiv_any (a b : Int) (w : World) (ha : -4611686018427387904 ≤ a) (ha' : a ≤ 4611686018427387904) (hb : 1 ≤ b) (hb' : b ≤ 4611686018427387904) :
    Calls Tryd.prog 69 #[.int .i64 a, .int .i64 b] w fun e w' => e = .returned (.tuple #[.int .i64 (a / b), .bool true]) ∧ w.drew = w' := by
  go_enter Tryd.func69, Tryd.ntmps69
  go_wp2_with (go_at_call 81; refine (split_any _ _ _ (by omega) (by omega) (by omega) (by omega)).mono ?_; rintro e w1 ⟨rfl, rfl⟩)
  go_ret2
  exact ⟨rfl, rfl⟩

theorem lp_true (y : Int) : lp 2 y = decide (y % 4 = 0 ∧ (y % 100 ≠ 0 ∨ y % 400 = 0)) := rfl
theorem tmod_zero (y m : Int) (hm : 0 < m) : y % m = 0 ↔ y.tmod m = 0 := by
  rw [← Int.dvd_iff_emod_eq_zero, Int.dvd_iff_tmod_eq_zero]
theorem Leap_any (y : Int) (w : World) :
    Calls Tryd.prog 54 #[.int .i64 y] w fun e w' => e = .returned (.bool (lp 2 y)) ∧ w = w' := by
  have hl := lp_true y
  have HL := Lib.hid hl
  have H4 := Lib.hid (tmod_zero y 4 (by omega))
  have H1 := Lib.hid (tmod_zero y 100 (by omega))
  have H5 := Lib.hid (tmod_zero y 400 (by omega))
  clear hl
  by_cases h : 0 ≤ y
  · go_enter Tryd.func54, Tryd.ntmps54
    go_wp2
    all_goals go_ret
    all_goals refine ⟨ret_bool ?_, rfl⟩
    all_goals rw [HL.out, Bool.eq_iff_iff]
    all_goals simp
    all_goals omega
  · go_enter Tryd.func54, Tryd.ntmps54
    go_wp2
    all_goals go_ret
    all_goals refine ⟨ret_bool ?_, rfl⟩
    all_goals rw [HL.out, Bool.eq_iff_iff]
    all_goals have a4 := H4.out
    all_goals have a1 := H1.out
    all_goals have a5 := H5.out
    all_goals simp [a4, a1, a5, *]
/-- A Bool that the walk does not open. -/
def lpB (y : Int) : Bool := lp 2 y

theorem Length_out (y m : Int) (w : World) (h : m < 1 ∨ 12 < m) :
    Calls Tryd.prog 74 #[.int .i64 y, .int .i64 m] w fun e w' => e = .returned (.int .i64 0) ∧ w = w' := by
  rcases h with h | h
  all_goals
    go_enter Tryd.func74, Tryd.ntmps74
    go_wp2_with (go_at_call 54; (with_reducible refine (Leap_any _ _).mono ?_); rintro e w1 ⟨rfl, rfl⟩)
    go_ret
    exact ⟨rfl, rfl⟩
theorem Length_in (y m : Int) (w : World) (h : 1 ≤ m) (h' : m ≤ 12) :
    Calls Tryd.prog 74 #[.int .i64 y, .int .i64 m] w fun e w' => e = .returned (.int .i64 (mlen (lp 2 y) m)) ∧ w = w' := by
  by_cases h2 : m = 2
  · subst h2
    cases hl : lp 2 y
    · have HL := fun w => Leap_any y w
      rw [hl] at HL
      have KL := Lib.hid HL
      clear HL hl
      go_enter Tryd.func74, Tryd.ntmps74
      go_wp2_with (go_at_call 54; (with_reducible refine (KL.out _).mono ?_); rintro e w1 ⟨rfl, rfl⟩)
      go_ret
      exact ⟨rfl, rfl⟩
    · have HL := fun w => Leap_any y w
      rw [hl] at HL
      have KL := Lib.hid HL
      clear HL hl
      go_enter Tryd.func74, Tryd.ntmps74
      go_wp2_with (go_at_call 54; (with_reducible refine (KL.out _).mono ?_); rintro e w1 ⟨rfl, rfl⟩)
      go_ret
      exact ⟨rfl, rfl⟩
  · have hm : mlen (lp 2 y) m = 30 + (m + m / 8) % 2 := by unfold mlen; rw [if_neg (by omega), if_neg h2]
    have HM := Lib.hid hm
    have h3 : (m == 2) = false := by simpa using h2
    clear hm h2
    go_enter Tryd.func74, Tryd.ntmps74
    go_wp2_with (go_at_call 54; (with_reducible refine (Leap_any _ _).mono ?_); rintro e w1 ⟨rfl, rfl⟩)
    go_ret
    exact ⟨by rw [HM.out]; rfl, rfl⟩
theorem Length_any (y m : Int) (w : World) :
    Calls Tryd.prog 74 #[.int .i64 y, .int .i64 m] w fun e w' => e = .returned (.int .i64 (mlen (lp 2 y) m)) ∧ w = w' := by
  by_cases h : m < 1 ∨ 12 < m
  · rw [mlen_out _ _ h]; exact Length_out y m w h
  · exact Length_in y m w (by omega) (by omega)
theorem inR_yes (y : Int) (w : World) (h : 1 ≤ y) (h' : y ≤ 1000000000) :
    Calls Tryd.prog 71 #[.int .i64 y] w fun e w' => e = .returned (.bool true) ∧ w = w' := by
  have h3 : decide (y ≤ 1000000000) = true := by simp; omega
  go_enter Tryd.func71, Tryd.ntmps71
  go_wp2
  go_ret
  exact ⟨by first | rfl | (simp; done) | (simp; omega), rfl⟩
theorem inR_no (y : Int) (w : World) (h : y < 1 ∨ 1000000000 < y) :
    Calls Tryd.prog 71 #[.int .i64 y] w fun e w' => e = .returned (.bool false) ∧ w = w' := by
  go_enter Tryd.func71, Tryd.ntmps71
  go_wp2
  all_goals go_ret
  all_goals exact ⟨by first | rfl | (simp; done) | (simp; omega), rfl⟩
theorem first_any (y : Int) (w : World) (h : 1 ≤ y) (h' : y ≤ 1000000001) :
    Calls Tryd.prog 73 #[.int .i64 y] w fun e w' => e = .returned (.int .i64 (fst 2 y)) ∧ w = w' := by
  go_enter Tryd.func73, Tryd.ntmps73
  go_wp2
  go_ret
  exact ⟨rfl, rfl⟩
theorem First_ok (y : Int) (w : World) (h : 1 ≤ y) (h' : y ≤ 1000000000) :
    Calls Tryd.prog 53 #[.int .i64 y] w fun e w' => e = .returned (.tuple #[.int .i64 (fst 2 y), .int .i64 0]) ∧ w = w' := by
  go_enter Tryd.func53, Tryd.ntmps53
  go_wp2_with (first | (go_at_call 71; refine (inR_yes _ _ h h').mono ?_; rintro e w1 ⟨rfl, rfl⟩) | (go_at_call 73; refine (first_any _ _ (by omega) (by omega)).mono ?_; rintro e w1 ⟨rfl, rfl⟩))
  go_ret2
  exact ⟨rfl, rfl⟩
theorem First_no (y : Int) (w : World) (h : y < 1 ∨ 1000000000 < y) :
    Calls Tryd.prog 53 #[.int .i64 y] w fun e w' => e = .returned (.tuple #[.int .i64 0, .int .i64 1]) ∧ w = w' := by
  go_enter Tryd.func53, Tryd.ntmps53
  go_wp2_with (first | (go_at_call 71; refine (inR_no _ _ h).mono ?_; rintro e w1 ⟨rfl, rfl⟩))
  go_ret2
  exact ⟨rfl, rfl⟩
end Go.Proofs.YtdmgnanpjkimlaaDoor

/- Contracts: package gregorian, the date of a number. -/
import Derived.Test.YthhaicledbcnmaaGreg2
set_option linter.unusedSimpArgs false
set_option linter.unusedVariables false
set_option linter.unusedSectionVars false
namespace Go.Proofs.Ythhaicledbcnmaa
open Go.ChangeShapes Go.WideShapes Go.ChangeAt Go.RowKit
set_option maxHeartbeats 800000

/-- What the loop over the lengths of 400, 100, 4 and 1 years has found, at its four heads and at its end. -/
def YRel (n : Int) (r o i : Int) : Prop :=
  (i = 0 ∧ r = n - 1 ∧ o = 1) ∨
  (i = 1 ∧ ∃ a, 0 ≤ a ∧ a ≤ 2500000 ∧ r = n - 1 - 146097 * a ∧ 0 ≤ r ∧ r < 146097 ∧ o = 1 + 400 * a) ∨
  (i = 2 ∧ ∃ a b, 0 ≤ a ∧ a ≤ 2500000 ∧ 0 ≤ b ∧ b ≤ 3 ∧ r = n - 1 - 146097 * a - 36524 * b ∧ 0 ≤ r ∧ r < 36525 ∧ (b < 3 → r < 36524) ∧ o = 1 + 400 * a + 100 * b) ∨
  (i = 3 ∧ ∃ a b c, 0 ≤ a ∧ a ≤ 2500000 ∧ 0 ≤ b ∧ b ≤ 3 ∧ 0 ≤ c ∧ c ≤ 24 ∧ r = n - 1 - 146097 * a - 36524 * b - 1461 * c ∧ 0 ≤ r ∧ r < 1461 ∧ (b < 3 → c = 24 → r < 1460) ∧ o = 1 + 400 * a + 100 * b + 4 * c) ∨
  (i = 4 ∧ ∃ a b c d, 0 ≤ a ∧ a ≤ 2500000 ∧ 0 ≤ b ∧ b ≤ 3 ∧ 0 ≤ c ∧ c ≤ 24 ∧ 0 ≤ d ∧ d ≤ 3 ∧ r = n - 1 - 146097 * a - 36524 * b - 1461 * c - 365 * d ∧ 0 ≤ r ∧ r < 366 ∧ (d < 3 → r < 365) ∧ (b < 3 → c = 24 → r < 365) ∧ o = 1 + 400 * a + 100 * b + 4 * c + d)
theorem YRel_end (n r o y : Int) (h : YRel n r o 4) (h1 : fst 2 y ≤ n) (h2 : n < fst 2 (y + 1)) : o = y := by
  unfold YRel at h
  rcases h with ⟨h, _⟩ | ⟨h, _⟩ | ⟨h, _⟩ | ⟨h, _⟩ | ⟨_, a, b, c, d, a1, a2, b1, b2, c1, c2, d1, d2, e1, e2, e3, e4, e5, rfl⟩
  · omega
  · omega
  · omega
  · omega
  · have e : fst 2 (1 + 400 * a + 100 * b + 4 * c + d) = 1 + 146097 * a + 36524 * b + 1461 * c + 365 * d := by
      unfold fst; simp only [show ¬ (2 : Int) = 1 from by decide, if_false]; omega
    have g : (0 : Int) ≤ if lp 2 (1 + 400 * a + 100 * b + 4 * c + d) then 1 else 0 := by split <;> omega
    have g2 : r = 365 → (if lp 2 (1 + 400 * a + 100 * b + 4 * c + d) then (1 : Int) else 0) = 1 := by
      intro hr
      obtain rfl : d = 3 := by omega
      rw [if_pos]
      rw [lp_true, decide_eq_true_iff]
      by_cases hc : c = 24
      · have : b = 3 := by omega
        omega
      · omega
    have f := fst_succ 2 (1 + 400 * a + 100 * b + 4 * c + d)
    exact year_unique 2 n _ y (by omega) (by rw [f]; omega) h1 h2
theorem YRel_0 (n : Int) (h1 : 1 ≤ n) (h2 : n < 365242500001) : YRel n (n - 1 - (n - 1) / 146097 * 146097) (1 + (n - 1) / 146097 * 400) 1 :=
  .inr (.inl ⟨rfl, (n - 1) / 146097, by omega, by omega, by omega, by omega, by omega, by omega⟩)
theorem YRel_1 (n r a : Int) (a1 : 0 ≤ a) (a2 : a ≤ 2500000) (e1 : r = n - 1 - 146097 * a) (e2 : 0 ≤ r) (e3 : r < 146097) :
    YRel n (r - (if 3 < r / 36524 then 3 else r / 36524) * 36524) (1 + 400 * a + (if 3 < r / 36524 then 3 else r / 36524) * 100) 2 := by
  refine .inr (.inr (.inl ⟨rfl, a, if 3 < r / 36524 then 3 else r / 36524, a1, a2, ?_⟩))
  split <;> (refine ⟨?_, ?_, ?_, ?_, ?_, ?_, ?_⟩ <;> omega)
theorem YRel_2 (n r a b : Int) (a1 : 0 ≤ a) (a2 : a ≤ 2500000) (b1 : 0 ≤ b) (b2 : b ≤ 3) (e1 : r = n - 1 - 146097 * a - 36524 * b) (e2 : 0 ≤ r) (e3 : r < 36525) (e4 : b < 3 → r < 36524) :
    YRel n (r - r / 1461 * 1461) (1 + 400 * a + 100 * b + r / 1461 * 4) 3 := by
  refine .inr (.inr (.inr (.inl ⟨rfl, a, b, r / 1461, a1, a2, b1, b2, ?_⟩)))
  refine ⟨?_, ?_, ?_, ?_, ?_, ?_, ?_⟩ <;> omega
theorem YRel_3 (n r a b c : Int) (a1 : 0 ≤ a) (a2 : a ≤ 2500000) (b1 : 0 ≤ b) (b2 : b ≤ 3) (c1 : 0 ≤ c) (c2 : c ≤ 24) (e1 : r = n - 1 - 146097 * a - 36524 * b - 1461 * c) (e2 : 0 ≤ r) (e3 : r < 1461) (e4 : b < 3 → c = 24 → r < 1460) :
    YRel n (r - (if 3 < r / 365 then 3 else r / 365) * 365) (1 + 400 * a + 100 * b + 4 * c + (if 3 < r / 365 then 3 else r / 365)) 4 := by
  refine .inr (.inr (.inr (.inr ⟨rfl, a, b, c, if 3 < r / 365 then 3 else r / 365, a1, a2, b1, b2, c1, c2, ?_⟩)))
  split <;> (refine ⟨?_, ?_, ?_, ?_, ?_, ?_, ?_, ?_⟩ <;> omega)
end Go.Proofs.Ythhaicledbcnmaa

/- Plain: what the functions on dates of both calendars return. -/
import Derived.Test.YthhaicledbcnmaaCal
set_option linter.unusedSimpArgs false
set_option linter.unusedVariables false
set_option linter.unusedSectionVars false
namespace Go.Proofs.Ythhaicledbcnmaa

instance (k y m d : Int) : Decidable (OkD k y m d) := by unfold OkD; infer_instance
/-- The number of a date, or 0. -/
def tdN (k y m d : Int) : Int := if OkD k y m d then num k y m d else 0
/-- The error of a date. -/
def tdE (k y m d : Int) : Int := if y < 1 ∨ 1000000000 < y then 1 else if OkD k y m d then 0 else 2
/-- Is it a date? -/
def okB (k y m d : Int) : Bool := decide (OkD k y m d)
theorem td_cases (k y m d : Int) : ((y < 1 ∨ 1000000000 < y) ∧ tdN k y m d = 0 ∧ tdE k y m d = 1) ∨ ((1 ≤ y ∧ y ≤ 1000000000 ∧ ¬ OkD k y m d) ∧ tdN k y m d = 0 ∧ tdE k y m d = 2) ∨ (OkD k y m d ∧ tdN k y m d = num k y m d ∧ tdE k y m d = 0) := by
  unfold tdN tdE
  by_cases h : OkD k y m d
  · have h1 := h.1
    have h2 := h.2.1
    exact .inr (.inr ⟨h, if_pos h, by rw [if_neg (by omega), if_pos h]⟩)
  · by_cases h' : 1 ≤ y ∧ y ≤ 1000000000
    · exact .inr (.inl ⟨⟨h'.1, h'.2, h⟩, if_neg h, by rw [if_neg (by omega), if_neg h]⟩)
    · exact .inl ⟨by omega, if_neg h, if_pos (by omega)⟩
/-- The date of a number, or zeros, and the error. -/
def FdRel (k n y m d e : Int) : Prop := ((n < fst k 1 ∨ fst k 1000000001 ≤ n) ∧ y = 0 ∧ m = 0 ∧ d = 0 ∧ e = 1) ∨ (OkD k y m d ∧ num k y m d = n ∧ e = 0)
theorem fd_some (k n : Int) : ∃ y m d e, FdRel k n y m d e := by
  by_cases h : n < fst k 1 ∨ fst k 1000000001 ≤ n
  · exact ⟨0, 0, 0, 1, .inl ⟨h, rfl, rfl, rfl, rfl⟩⟩
  · obtain ⟨y, m, d, h1, h2⟩ := date_of k n (by omega) (by omega)
    exact ⟨y, m, d, 0, .inr ⟨h1, h2, rfl⟩⟩
theorem fd_far (k n y m d e : Int) (h : n < -1 ∨ 365249999999 ≤ n) (hf : FdRel k n y m d e) : y = 0 ∧ m = 0 ∧ d = 0 ∧ e = 1 := by
  rcases hf with ⟨_, a⟩ | ⟨a, b, _⟩
  · exact a
  · have := num_bounds k y m d a
    rw [fst_one, fst_top] at this
    split at this <;> omega

/-- A calendar. -/
def IsCal (c : Int) : Prop := c = 1 ∨ c = 2
instance (c : Int) : Decidable (IsCal c) := by unfold IsCal; infer_instance
def cN (c y m d : Int) : Int := if IsCal c then tdN c y m d else 0
def cE (c y m d : Int) : Int := if IsCal c then tdE c y m d else 3
theorem cal_cases (c : Int) : c = 1 ∨ c = 2 ∨ (¬ IsCal c ∧ (c < 1 ∨ 2 < c)) := by unfold IsCal; omega
theorem c_cases (c y m d : Int) : (IsCal c ∧ OkD c y m d ∧ cN c y m d = num c y m d ∧ cE c y m d = 0) ∨ (cN c y m d = 0 ∧ 1 ≤ cE c y m d ∧ cE c y m d ≤ 3 ∧ ¬ (IsCal c ∧ OkD c y m d)) := by
  unfold cN cE
  by_cases h : IsCal c
  · rw [if_pos h, if_pos h]
    rcases td_cases c y m d with ⟨a, b, e⟩ | ⟨a, b, e⟩ | ⟨a, b, e⟩
    · exact .inr ⟨b, by omega, by omega, fun g => by have := g.2.1; have := g.2.2.1; omega⟩
    · exact .inr ⟨b, by omega, by omega, fun g => a.2.2 g.2⟩
    · exact .inl ⟨h, a, b, e⟩
  · rw [if_neg h, if_neg h]
    exact .inr ⟨rfl, by omega, by omega, fun g => h g.1⟩
/-- The date of a number in a calendar. -/
def FdC (c n y m d e : Int) : Prop := (IsCal c ∧ FdRel c n y m d e) ∨ (¬ IsCal c ∧ y = 0 ∧ m = 0 ∧ d = 0 ∧ e = 3)
theorem fdC_some (c n : Int) : ∃ y m d e, FdC c n y m d e := by
  by_cases h : IsCal c
  · obtain ⟨y, m, d, e, hf⟩ := fd_some c n
    exact ⟨y, m, d, e, .inl ⟨h, hf⟩⟩
  · exact ⟨0, 0, 0, 3, .inr ⟨h, rfl, rfl, rfl, rfl⟩⟩
/-- A date in another calendar. -/
def CvRel (y m d a b x1 x2 x3 e : Int) : Prop :=
  (¬ IsCal b ∧ x1 = 0 ∧ x2 = 0 ∧ x3 = 0 ∧ e = 3) ∨ (IsCal b ∧ cE a y m d ≠ 0 ∧ x1 = 0 ∧ x2 = 0 ∧ x3 = 0 ∧ e = cE a y m d) ∨ (IsCal b ∧ cE a y m d = 0 ∧ FdC b (cN a y m d) x1 x2 x3 e)
theorem cv_some (y m d a b : Int) : ∃ x1 x2 x3 e, CvRel y m d a b x1 x2 x3 e := by
  by_cases h : IsCal b
  · by_cases g : cE a y m d = 0
    · obtain ⟨x1, x2, x3, e, hf⟩ := fdC_some b (cN a y m d)
      exact ⟨x1, x2, x3, e, .inr (.inr ⟨h, g, hf⟩)⟩
    · exact ⟨0, 0, 0, _, .inr (.inl ⟨h, g, rfl, rfl, rfl, rfl⟩)⟩
  · exact ⟨0, 0, 0, 3, .inl ⟨h, rfl, rfl, rfl, rfl⟩⟩
/-- The day of the year. -/
def oyN (c y m d : Int) : Int := if cE c y m d = 0 then cum (lp c y) m + d else 0
theorem oy_pos (c y m d : Int) (h : cE c y m d = 0) : oyN c y m d = num c y m d - fst c y + 1 := by
  unfold oyN num; rw [if_pos h]; omega
/-- The length of a year. -/
def ylN (c y : Int) : Int := if IsCal c ∧ 1 ≤ y ∧ y ≤ 1000000000 then (365 + if lp c y then 1 else 0) else 0
def ylE (c y : Int) : Int := if IsCal c then (if 1 ≤ y ∧ y ≤ 1000000000 then 0 else 1) else 3
theorem yl_cases (c y : Int) : (¬ IsCal c ∧ ylN c y = 0 ∧ ylE c y = 3) ∨ (IsCal c ∧ (y < 1 ∨ 1000000000 < y) ∧ ylN c y = 0 ∧ ylE c y = 1) ∨ (IsCal c ∧ 1 ≤ y ∧ y ≤ 1000000000 ∧ ylN c y = 365 + (if lp c y then 1 else 0) ∧ ylE c y = 0) := by
  unfold ylN ylE
  by_cases h : IsCal c
  · by_cases g : 1 ≤ y ∧ y ≤ 1000000000
    · exact .inr (.inr ⟨h, g.1, g.2, if_pos ⟨h, g⟩, by rw [if_pos h, if_pos g]⟩)
    · exact .inr (.inl ⟨h, by omega, if_neg (fun x => g x.2), by rw [if_pos h, if_neg g]⟩)
  · exact .inl ⟨h, if_neg (fun x => h x.1), if_neg h⟩
/-- The date of a day of the year. -/
def FyRel (c y n x1 x2 x3 e : Int) : Prop :=
  (ylE c y ≠ 0 ∧ x1 = 0 ∧ x2 = 0 ∧ x3 = 0 ∧ e = ylE c y) ∨ (ylE c y = 0 ∧ (n < 1 ∨ ylN c y < n) ∧ x1 = 0 ∧ x2 = 0 ∧ x3 = 0 ∧ e = 2) ∨ (ylE c y = 0 ∧ 1 ≤ n ∧ n ≤ ylN c y ∧ x1 = y ∧ OkD c y x2 x3 ∧ cum (lp c y) x2 + x3 = n ∧ e = 0)
theorem day_of (b : Bool) (n : Int) (h : 1 ≤ n) (h' : n ≤ 365 + if b then 1 else 0) : ∃ m d, 1 ≤ m ∧ m ≤ 12 ∧ 1 ≤ d ∧ d ≤ mlen b m ∧ cum b m + d = n := by
  obtain ⟨m, a1, a2, a3, a4⟩ := month_of b (n - 1) (by omega) (by rw [cum_13]; omega)
  exact ⟨m, n - cum b m, a1, a2, by omega, by omega, by omega⟩
theorem fy_some (c y n : Int) : ∃ x1 x2 x3 e, FyRel c y n x1 x2 x3 e := by
  by_cases h : ylE c y = 0
  · by_cases g : n < 1 ∨ ylN c y < n
    · exact ⟨0, 0, 0, 2, .inr (.inl ⟨h, g, rfl, rfl, rfl, rfl⟩)⟩
    · rcases yl_cases c y with ⟨_, _, a⟩ | ⟨_, _, _, a⟩ | ⟨a1, a2, a3, a4, a5⟩
      · omega
      · omega
      · obtain ⟨m, d, b1, b2, b3, b4, b5⟩ := day_of (lp c y) n (by omega) (by omega)
        exact ⟨y, m, d, 0, .inr (.inr ⟨h, by omega, by omega, rfl, ⟨a2, a3, b1, b2, b3, b4⟩, b5, rfl⟩)⟩
  · exact ⟨0, 0, 0, _, .inl ⟨h, rfl, rfl, rfl, rfl⟩⟩
/-- A date shifted. -/
def ShRel (c y m d n x1 x2 x3 e : Int) : Prop :=
  (cE c y m d ≠ 0 ∧ x1 = 0 ∧ x2 = 0 ∧ x3 = 0 ∧ e = cE c y m d) ∨ (cE c y m d = 0 ∧ FdC c (cN c y m d + n) x1 x2 x3 e)
theorem sh_some (c y m d n : Int) : ∃ x1 x2 x3 e, ShRel c y m d n x1 x2 x3 e := by
  by_cases g : cE c y m d = 0
  · obtain ⟨x1, x2, x3, e, hf⟩ := fdC_some c (cN c y m d + n)
    exact ⟨x1, x2, x3, e, .inr ⟨g, hf⟩⟩
  · exact ⟨0, 0, 0, _, .inl ⟨g, rfl, rfl, rfl, rfl⟩⟩
/-- The day of the week of a date. -/
def wdN (c y m d : Int) : Int := if cE c y m d = 0 then cN c y m d % 7 else 0
theorem cN_bounds (c y m d : Int) : -1 ≤ cN c y m d ∧ cN c y m d ≤ 365249999999 := by
  rcases c_cases c y m d with ⟨_, h, e, _⟩ | ⟨e, _⟩
  · have := num_bounds c y m d h
    rw [fst_one, fst_top] at this
    rw [e]
    split at this <;> omega
  · rw [e]; omega
end Go.Proofs.Ythhaicledbcnmaa

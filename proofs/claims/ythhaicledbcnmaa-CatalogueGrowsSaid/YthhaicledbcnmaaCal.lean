/- Plain arithmetic of both calendars (1: Julian, 2: Gregorian); no program in sight. -/
import Derived.Test.YthhaicledbcnmaaLib
set_option linter.unusedSimpArgs false
set_option linter.unusedVariables false
set_option linter.unusedSectionVars false
namespace Go.Proofs.Ythhaicledbcnmaa

/-- Leap years. -/
def lp (k y : Int) : Bool := if k = 1 then decide (y % 4 = 0) else decide (y % 4 = 0 ∧ (y % 100 ≠ 0 ∨ y % 400 = 0))
/-- The length of a month. -/
def mlen (b : Bool) (m : Int) : Int := if m < 1 ∨ 12 < m then 0 else if m = 2 then (if b then 29 else 28) else 30 + (m + m / 8) % 2
/-- The days of the months before a month. -/
def cum (b : Bool) (m : Int) : Int := if m ≤ 1 then 0 else if m = 2 then 31 else (if b then 1 else 0) + (153 * (m - 3) + 2) / 5 + 59
/-- The number of 1 January. -/
def fst (k y : Int) : Int := if k = 1 then 365 * (y - 1) + (y - 1) / 4 - 1 else 1 + 365 * (y - 1) + (y - 1) / 4 - (y - 1) / 100 + (y - 1) / 400
/-- The number of a date. -/
def num (k y m d : Int) : Int := fst k y + cum (lp k y) m + d - 1
/-- A valid date. -/
def OkD (k y m d : Int) : Prop := 1 ≤ y ∧ y ≤ 1000000000 ∧ 1 ≤ m ∧ m ≤ 12 ∧ 1 ≤ d ∧ d ≤ mlen (lp k y) m

theorem month_cases (m : Int) (h : 1 ≤ m) (h' : m ≤ 12) : m = 1 ∨ m = 2 ∨ m = 3 ∨ m = 4 ∨ m = 5 ∨ m = 6 ∨ m = 7 ∨ m = 8 ∨ m = 9 ∨ m = 10 ∨ m = 11 ∨ m = 12 := by omega
theorem cum_succ (b : Bool) (m : Int) (h : 1 ≤ m) (h' : m ≤ 12) : cum b (m + 1) = cum b m + mlen b m := by
  rcases month_cases m h h' with rfl | rfl | rfl | rfl | rfl | rfl | rfl | rfl | rfl | rfl | rfl | rfl <;> cases b <;> decide
theorem mlen_bounds (b : Bool) (m : Int) (h : 1 ≤ m) (h' : m ≤ 12) : 28 ≤ mlen b m ∧ mlen b m ≤ 31 := by
  rcases month_cases m h h' with rfl | rfl | rfl | rfl | rfl | rfl | rfl | rfl | rfl | rfl | rfl | rfl <;> cases b <;> decide
theorem mlen_out (b : Bool) (m : Int) (h : m < 1 ∨ 12 < m) : mlen b m = 0 := if_pos h
theorem cum_bounds (b : Bool) (m : Int) (h : 1 ≤ m) (h' : m ≤ 13) : 0 ≤ cum b m ∧ cum b m ≤ 366 := by
  unfold cum
  split
  · omega
  · split
    · omega
    · split <;> omega
theorem cum_13 (b : Bool) : cum b 13 = 365 + if b then 1 else 0 := by cases b <;> decide
theorem cum_1 (b : Bool) : cum b 1 = 0 := rfl
theorem cum_mono (b : Bool) (m m' : Int) (h : 1 ≤ m) (hm : m < m') (h' : m' ≤ 13) : cum b m + mlen b m ≤ cum b m' := by
  have h1 : ∀ j : Nat, m + 1 + j ≤ 13 → cum b (m + 1) ≤ cum b (m + 1 + j) := by
    intro j
    induction j with
    | zero => intro _; simp
    | succ j ih =>
      intro hj
      have h2 := ih (by omega)
      have h3 := cum_succ b (m + 1 + j) (by omega) (by omega)
      have h4 := mlen_bounds b (m + 1 + j) (by omega) (by omega)
      have e : m + 1 + ((j + 1 : Nat) : Int) = m + 1 + j + 1 := by omega
      rw [e, h3]
      omega
  have h2 := h1 (m' - (m + 1)).toNat (by omega)
  rw [show m + 1 + (((m' - (m + 1)).toNat : Nat) : Int) = m' from by omega] at h2
  have h3 := cum_succ b m h (by omega)
  omega

theorem lp_if (k y : Int) : (if lp k y then (1 : Int) else 0) = if k = 1 then (if y % 4 = 0 then 1 else 0) else (if y % 4 = 0 ∧ (y % 100 ≠ 0 ∨ y % 400 = 0) then 1 else 0) := by
  unfold lp
  by_cases hk : k = 1
  · simp [hk]
  · simp [hk]
theorem fst_succ (k y : Int) : fst k (y + 1) = fst k y + 365 + if lp k y then 1 else 0 := by
  rw [lp_if]
  unfold fst
  by_cases hk : k = 1
  · simp only [hk, if_true]
    split <;> omega
  · simp only [hk, if_false]
    split <;> omega
theorem fst_mono (k y z : Int) (h : y ≤ z) : fst k y + 365 * (z - y) ≤ fst k z := by
  have h1 : ∀ j : Nat, fst k y + 365 * j ≤ fst k (y + j) := by
    intro j
    induction j with
    | zero => simp
    | succ j ih =>
      have h2 := fst_succ k (y + j)
      have h3 : (0 : Int) ≤ if lp k (y + j) then 1 else 0 := by split <;> omega
      rw [show y + ((j + 1 : Nat) : Int) = y + j + 1 from by omega, h2]
      omega
  have h2 := h1 (z - y).toNat
  rw [show (((z - y).toNat : Nat) : Int) = z - y from by omega, show y + (z - y) = z from by omega] at h2
  exact h2
theorem fst_one (k : Int) : fst k 1 = if k = 1 then -1 else 1 := by
  unfold fst; by_cases hk : k = 1 <;> simp [hk]
theorem fst_top (k : Int) : fst k 1000000001 = if k = 1 then 365249999999 else 365242500001 := by
  unfold fst; by_cases hk : k = 1 <;> simp [hk]
theorem fst_bounds (k y : Int) (h : 1 ≤ y) (h' : y ≤ 1000000001) : -1 ≤ fst k y ∧ fst k y ≤ 365249999999 := by
  have h1 := fst_mono k 1 y h
  have h2 := fst_mono k y 1000000001 h'
  rw [fst_one] at h1
  rw [fst_top] at h2
  split at h1 <;> split at h2 <;> omega
theorem num_year (k y m d : Int) (h : OkD k y m d) : fst k y ≤ num k y m d ∧ num k y m d < fst k (y + 1) := by
  obtain ⟨h1, h2, h3, h4, h5, h6⟩ := h
  have a := cum_bounds (lp k y) m h3 (by omega)
  have b := cum_mono (lp k y) m 13 h3 (by omega) (by omega)
  rw [cum_13] at b
  rw [fst_succ]
  unfold num
  omega
theorem num_bounds (k y m d : Int) (h : OkD k y m d) : fst k 1 ≤ num k y m d ∧ num k y m d < fst k 1000000001 := by
  have h1 := num_year k y m d h
  have h2 := fst_mono k 1 y h.1
  have h3 := fst_mono k (y + 1) 1000000001 (by have := h.2.1; omega)
  have := h.1
  have := h.2.1
  omega
/-- Dates in their order. -/
def Before (y m d y' m' d' : Int) : Prop := y < y' ∨ y = y' ∧ (m < m' ∨ m = m' ∧ d < d')
theorem num_lt (k y m d y' m' d' : Int) (h : OkD k y m d) (h' : OkD k y' m' d') (hb : Before y m d y' m' d') : num k y m d < num k y' m' d' := by
  rcases hb with hb | ⟨rfl, hb | ⟨rfl, hb⟩⟩
  · have h1 := num_year k y m d h
    have h2 := num_year k y' m' d' h'
    have h3 := fst_mono k (y + 1) y' (by omega)
    omega
  · obtain ⟨_, _, h3, h4, h5, h6⟩ := h
    obtain ⟨_, _, g3, g4, g5, g6⟩ := h'
    have a := cum_mono (lp k y) m m' h3 hb (by omega)
    unfold num
    omega
  · unfold num
    omega
theorem before_total (y m d y' m' d' : Int) : Before y m d y' m' d' ∨ (y = y' ∧ m = m' ∧ d = d') ∨ Before y' m' d' y m d := by unfold Before; omega
theorem num_inj (k y m d y' m' d' : Int) (h : OkD k y m d) (h' : OkD k y' m' d') (e : num k y m d = num k y' m' d') : y = y' ∧ m = m' ∧ d = d' := by
  rcases before_total y m d y' m' d' with hb | hb | hb
  · have := num_lt k _ _ _ _ _ _ h h' hb; omega
  · exact hb
  · have := num_lt k _ _ _ _ _ _ h' h hb; omega
theorem num_lt_iff (k y m d y' m' d' : Int) (h : OkD k y m d) (h' : OkD k y' m' d') : num k y m d < num k y' m' d' ↔ Before y m d y' m' d' := by
  constructor
  · intro hl
    rcases before_total y m d y' m' d' with hb | ⟨rfl, rfl, rfl⟩ | hb
    · exact hb
    · omega
    · have := num_lt k _ _ _ _ _ _ h' h hb; omega
  · exact num_lt k _ _ _ _ _ _ h h'

/-- The month of a day of the year, from 0. -/
theorem month_of (b : Bool) (r : Int) (h : 0 ≤ r) (h' : r < cum b 13) : ∃ m, 1 ≤ m ∧ m ≤ 12 ∧ cum b m ≤ r ∧ r < cum b m + mlen b m := by
  have h1 : ∀ j : Nat, j ≤ 12 → (r < cum b (1 + j) → ∃ m, 1 ≤ m ∧ m ≤ 12 ∧ cum b m ≤ r ∧ r < cum b m + mlen b m) := by
    intro j
    induction j with
    | zero => intro _ h2; rw [show (1 : Int) + ((0 : Nat) : Int) = 1 from rfl, cum_1] at h2; omega
    | succ j ih =>
      intro hj h2
      by_cases h3 : r < cum b (1 + j)
      · exact ih (by omega) h3
      · have h4 := cum_succ b (1 + j) (by omega) (by omega)
        rw [show (1 : Int) + ((j + 1 : Nat) : Int) = 1 + j + 1 from by omega, h4] at h2
        exact ⟨1 + j, by omega, by omega, by omega, h2⟩
  exact h1 12 (by omega) h'
/-- The year of a day. -/
theorem year_of (k n : Int) (h : fst k 1 ≤ n) (h' : n < fst k 1000000001) : ∃ y, 1 ≤ y ∧ y ≤ 1000000000 ∧ fst k y ≤ n ∧ n < fst k (y + 1) := by
  have h1 : ∀ j : Nat, n < fst k (1 + j) → ∃ y : Int, 1 ≤ y ∧ y ≤ j ∧ fst k y ≤ n ∧ n < fst k (y + 1) := by
    intro j
    induction j with
    | zero => intro h2; rw [show (1 : Int) + ((0 : Nat) : Int) = 1 from rfl] at h2; omega
    | succ j ih =>
      intro h2
      by_cases h3 : n < fst k (1 + j)
      · obtain ⟨y, a, b, c, d⟩ := ih h3
        exact ⟨y, a, by omega, c, d⟩
      · exact ⟨1 + j, by omega, by omega, by omega, by rwa [show (1 : Int) + j + 1 = 1 + ((j + 1 : Nat) : Int) from by omega]⟩
  obtain ⟨y, a, b, c, d⟩ := h1 (Nat.mul 1000000 1000) (by
    have e : (1 : Int) + ((Nat.mul 1000000 1000 : Nat) : Int) = 1000000001 := by decide
    rw [e]; exact h')
  refine ⟨y, a, ?_, c, d⟩
  have e : ((Nat.mul 1000000 1000 : Nat) : Int) = 1000000000 := by decide
  omega
theorem year_unique (k n y z : Int) (a : fst k y ≤ n) (b : n < fst k (y + 1)) (c : fst k z ≤ n) (d : n < fst k (z + 1)) : y = z := by
  rcases Int.lt_trichotomy y z with h | h | h
  · have := fst_mono k (y + 1) z (by omega); omega
  · exact h
  · have := fst_mono k (z + 1) y (by omega); omega
theorem date_of (k n : Int) (h : fst k 1 ≤ n) (h' : n < fst k 1000000001) : ∃ y m d, OkD k y m d ∧ num k y m d = n := by
  obtain ⟨y, a, b, c, e⟩ := year_of k n h h'
  rw [fst_succ] at e
  obtain ⟨m, f, g, i, j⟩ := month_of (lp k y) (n - fst k y) (by omega) (by rw [cum_13]; omega)
  exact ⟨y, m, n - fst k y - cum (lp k y) m + 1, ⟨a, b, f, g, by omega, by omega⟩, by unfold num; omega⟩
/-- The next day of the calendar. -/
theorem num_next (k y m d : Int) (h : OkD k y m d) :
    (d < mlen (lp k y) m → OkD k y m (d + 1) ∧ num k y m (d + 1) = num k y m d + 1) ∧
    (¬ d < mlen (lp k y) m → m < 12 → OkD k y (m + 1) 1 ∧ num k y (m + 1) 1 = num k y m d + 1) ∧
    (¬ d < mlen (lp k y) m → ¬ m < 12 → num k (y + 1) 1 1 = num k y m d + 1) := by
  obtain ⟨h1, h2, h3, h4, h5, h6⟩ := h
  refine ⟨fun a => ⟨⟨h1, h2, h3, h4, by omega, by omega⟩, by unfold num; omega⟩, fun a b => ?_, fun a b => ?_⟩
  · have c := cum_succ (lp k y) m h3 h4
    have e := mlen_bounds (lp k y) (m + 1) (by omega) (by omega)
    exact ⟨⟨h1, h2, by omega, by omega, by omega, by omega⟩, by unfold num; rw [c]; omega⟩
  · obtain rfl : m = 12 := by omega
    have c := cum_succ (lp k y) 12 h3 h4
    rw [show (12 : Int) + 1 = 13 from rfl, cum_13] at c
    unfold num
    rw [cum_1, fst_succ]
    omega
theorem fst_lt (k y : Int) : fst k y < fst k (y + 1) := by
  have := fst_mono k y (y + 1) (by omega); omega
end Go.Proofs.Ythhaicledbcnmaa

/- Plain: what the queries on many years answer. -/
import Derived.Test.YtekgaihdfnhkpaaMoonG
set_option linter.unusedSimpArgs false
set_option linter.unusedVariables false
set_option linter.unusedSectionVars false
namespace Go.Proofs.Ytekgaihdfnhkpaa

/-- Easter is on the day d of the month m. -/
def onB (k m d y : Int) : Bool := decide (dmo (easI k y) = m ∧ dda (easI k y) = d)
/-- The years of the n years from f on with Easter on that day. -/
def yrs (k f m d : Int) : Nat → List Int
  | 0 => []
  | n + 1 => if onB k m d (f + n) then yrs k f m d n ++ [f + n] else yrs k f m d n
/-- The first of them, or 0. -/
def nxt (k f m d : Int) : Nat → Int
  | 0 => 0
  | n + 1 => if nxt k f m d n = 0 then (if onB k m d (f + n) then f + n else 0) else nxt k f m d n
/-- How many of them have Easter j days behind 22 March. -/
def cnt (k f : Int) (j : Int) : Nat → Nat
  | 0 => 0
  | n + 1 => if easI k (f + n) - 1 = j then cnt k f j n + 1 else cnt k f j n
/-- The earliest Easter of them (as days from 22 March), and the first year that has it. -/
def bst (k f : Int) : Nat → Int × Int
  | 0 => (0, 35)
  | n + 1 => if easI k (f + n) - 1 < (bst k f n).2 then (f + n, easI k (f + n) - 1) else bst k f n

theorem yrs_len (k f m d : Int) (n : Nat) : (yrs k f m d n).length ≤ n := by
  induction n with
  | zero => exact Nat.le_refl _
  | succ n ih =>
    unfold yrs
    split
    · rw [List.length_append, List.length_singleton]; omega
    · omega
theorem cnt_le (k f j : Int) (n : Nat) : cnt k f j n ≤ n := by
  induction n with
  | zero => exact Nat.le_refl _
  | succ n ih => unfold cnt; split <;> omega
theorem easI_idx (k y : Int) : 0 ≤ easI k y - 1 ∧ easI k y - 1 ≤ 34 := by have := easI_bounds k y; omega
theorem idx_of (i : Int) (h : 1 ≤ i) (h' : i ≤ 35) : (dmo i - 3) * 31 + dda i - 22 = i - 1 := by
  unfold dmo dda
  by_cases g : i ≤ 10
  · rw [if_pos g, if_pos g]; omega
  · rw [if_neg g, if_neg g]; omega
/-- A day of a month on which Easter can be. -/
def exB (m d : Int) : Bool := decide (m = 3 ∧ 22 ≤ d ∧ d ≤ 31 ∨ m = 4 ∧ 1 ≤ d ∧ d ≤ 25)
theorem on_iff (i m d : Int) (h : 1 ≤ i) (h' : i ≤ 35) : (exB m d && decide (i - 1 = (m - 3) * 31 + d - 22)) = decide (dmo i = m ∧ dda i = d) := by
  rw [Bool.eq_iff_iff]
  unfold exB dmo dda
  simp only [Bool.and_eq_true, decide_eq_true_eq]
  by_cases g : i ≤ 10
  · rw [if_pos g, if_pos g]; omega
  · rw [if_neg g, if_neg g]; omega
theorem bst_range (k f : Int) (n : Nat) : 0 ≤ (bst k f n).2 ∧ (bst k f n).2 ≤ 35 := by
  induction n with
  | zero => show (0 : Int) ≤ 35 ∧ (35 : Int) ≤ 35; decide
  | succ n ih =>
    have := easI_idx k (f + n)
    unfold bst
    split
    · dsimp only; omega
    · exact ih
theorem bst_year (k f : Int) (n : Nat) (h : 0 < n) : f ≤ (bst k f n).1 ∧ (bst k f n).1 < f + n := by
  induction n with
  | zero => omega
  | succ n ih =>
    unfold bst
    split
    · dsimp only; omega
    · rename_i g
      cases n with
      | zero => have := easI_idx k (f + (0 : Nat)); have e : (bst k f 0).2 = 35 := rfl; omega
      | succ n => have := ih (by omega); omega
theorem bst_at (k f : Int) (n : Nat) (h : 0 < n) : (bst k f n).2 = easI k (bst k f n).1 - 1 := by
  induction n with
  | zero => omega
  | succ n ih =>
    unfold bst
    split
    · rfl
    · rename_i g
      cases n with
      | zero => have := easI_idx k (f + (0 : Nat)); have e : (bst k f 0).2 = 35 := rfl; omega
      | succ n => exact ih (by omega)
theorem bst_min (k f : Int) (n : Nat) (i : Nat) (h : i < n) : (bst k f n).2 < easI k (f + i) - 1 ∨ (bst k f n).2 = easI k (f + i) - 1 ∧ (bst k f n).1 ≤ f + i := by
  induction n with
  | zero => omega
  | succ n ih =>
    have hs : bst k f (n + 1) = if easI k (f + n) - 1 < (bst k f n).2 then (f + n, easI k (f + n) - 1) else bst k f n := rfl
    rw [hs]
    by_cases hi : i = n
    · subst hi
      split
      · right; exact ⟨rfl, Int.le_refl _⟩
      · rename_i g
        cases i with
        | zero => have := easI_idx k (f + (0 : Nat)); have e : (bst k f 0).2 = 35 := rfl; omega
        | succ i =>
          have := bst_year k f (i + 1) (by omega)
          omega
    · have := ih (by omega)
      split
      · dsimp only; omega
      · exact this
/-- Where the earliest day of all is met, no later year turns the result. -/
theorem bst_stop (k f : Int) (n j : Nat) (h : (bst k f n).2 ≤ 0) : bst k f (n + j) = bst k f n := by
  induction j with
  | zero => rfl
  | succ j ih =>
    have := easI_idx k (f + (n + j : Nat))
    have e : bst k f (n + j + 1) = if easI k (f + (n + j : Nat)) - 1 < (bst k f (n + j)).2 then (f + (n + j : Nat), easI k (f + (n + j : Nat)) - 1) else bst k f (n + j) := rfl
    rw [← Nat.add_assoc, e, ih, if_neg (by omega)]
theorem nxt_stop (k f m d : Int) (n j : Nat) (h : nxt k f m d n ≠ 0) : nxt k f m d (n + j) = nxt k f m d n := by
  induction j with
  | zero => rfl
  | succ j ih =>
    have e : nxt k f m d (n + j + 1) = if nxt k f m d (n + j) = 0 then (if onB k m d (f + (n + j : Nat)) then f + (n + j : Nat) else 0) else nxt k f m d (n + j) := rfl
    rw [← Nat.add_assoc, e, ih, if_neg h]
theorem nxt_bounds (k f m d : Int) (n : Nat) (hf : 1 ≤ f) : nxt k f m d n = 0 ∨ f ≤ nxt k f m d n ∧ nxt k f m d n < f + n := by
  induction n with
  | zero => exact .inl rfl
  | succ n ih =>
    unfold nxt
    split
    · split
      · omega
      · exact .inl rfl
    · omega
/-- Easter recurs. -/
theorem eas_1 (y : Int) : easI 1 (y + 532) = easI 1 y := by
  have e1 : glN (y + 532) = glN y := by unfold glN; omega
  have e2 : moonI 1 (y + 532) = moonI 1 y := by unfold moonI labN epN epR; rw [e1]; simp
  have e3 : eqN 1 (y + 532) = eqN 1 y + 194313 := by
    rw [eqN_val, eqN_val]
    unfold fst
    rw [if_pos rfl]
    omega
  unfold easI
  rw [e2, e3]
  omega
theorem eas_2 (y : Int) : easI 2 (y + 5700000) = easI 2 y := by
  have e1 : glN (y + 5700000) = glN y := by unfold glN; omega
  have e2 : epN 2 (y + 5700000) = epN 2 y := by
    unfold epN epR
    rw [e1, if_neg (by decide)]
    have c1 : (y + 5700000) / 100 = y / 100 + 57000 := by omega
    have c2 : (8 * ((y + 5700000) / 100 + 1) + 5) / 25 = (8 * (y / 100 + 1) + 5) / 25 + 18240 := by omega
    have c3 : 3 * ((y + 5700000) / 100 + 1) / 4 = 3 * (y / 100 + 1) / 4 + 42750 := by omega
    unfold luN soN
    rw [c2, c3, if_neg (by decide)]
    omega
  have e3 : moonI 2 (y + 5700000) = moonI 2 y := by unfold moonI labN; rw [e1, e2]
  have e4 : eqN 2 (y + 5700000) = eqN 2 y + 2081882250 := by
    rw [eqN_val, eqN_val]
    unfold fst
    rw [if_neg (by decide)]
    omega
  unfold easI
  rw [e3, e4]
  omega
end Go.Proofs.Ytekgaihdfnhkpaa

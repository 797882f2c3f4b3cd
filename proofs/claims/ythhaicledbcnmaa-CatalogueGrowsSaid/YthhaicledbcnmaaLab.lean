/- Contracts: package label: Position, On, Bears. -/
import Derived.Test.YthhaicledbcnmaaRefL
import Derived.Outline
set_option linter.unusedSimpArgs false
set_option linter.unusedVariables false
set_option linter.unusedSectionVars false
namespace Go.Proofs.Ythhaicledbcnmaa
open Go.ChangeShapes Go.WideShapes Go.ChangeAt Go.RowKit
set_option maxHeartbeats 800000

theorem lt_cellL {w : World} {k o : Nat} {v : Value} (h : w.cell? ⟨k, o, none⟩ = some v) : k < w.heap.size := by
  by_cases hk : k < w.heap.size
  · exact hk
  · have : w.heap[k]? = none := by simp; omega
    simp [World.cell?, this] at h

/-- A day of a common year. -/
def Ex (m d : Int) : Prop := 1 ≤ m ∧ m ≤ 12 ∧ 1 ≤ d ∧ d ≤ mlen false m
def dayN (m d : Int) : Int := cum false m + d - 1
def lun (p : Int) : Int := if p < 354 then 2 * (p / 59) + (if p % 59 < 30 then 0 else 1) else 12
def psn (p : Int) : Int := if p < 354 then (if p % 59 < 30 then p % 59 else p % 59 - 30) else p - 354
def spanSum (l : Int) : Int := 59 * (l / 2) + 30 * (l % 2)
theorem dayN_bounds (m d : Int) (h : Ex m d) : 0 ≤ dayN m d ∧ dayN m d ≤ 364 := by
  obtain ⟨h1, h2, h3, h4⟩ := h
  have a := cum_mono false m 13 h1 (by omega) (by omega)
  have b := cum_bounds false m h1 (by omega)
  have c : cum false 13 = 365 := by decide
  unfold dayN
  omega
theorem lun_end (p l : Int) (h0 : 0 ≤ l) (h1 : l ≤ 12) (h2 : spanSum l ≤ p) (h3 : p ≤ 364) (h4 : l = 12 ∨ p - spanSum l < 30 - l % 2) : l = lun p ∧ p - spanSum l = psn p := by
  unfold lun psn
  unfold spanSum at *
  rcases (show l % 2 = 0 ∨ l % 2 = 1 by omega) with e | e
  · obtain ⟨q, rfl⟩ : ∃ q, l = 2 * q := ⟨l / 2, by omega⟩
    have e1 : 2 * q / 2 = q := by omega
    rw [e, e1] at h2 h4 ⊢
    by_cases hp : p < 354
    · have hq : p / 59 = q := by omega
      have hr : p % 59 = p - 59 * q := by omega
      rw [if_pos hp, if_pos hp, hq, hr, if_pos (by omega), if_pos (by omega)]
      omega
    · rw [if_neg hp, if_neg hp]
      omega
  · obtain ⟨q, rfl⟩ : ∃ q, l = 2 * q + 1 := ⟨l / 2, by omega⟩
    have e1 : (2 * q + 1) / 2 = q := by omega
    rw [e, e1] at h2 h4 ⊢
    by_cases hp : p < 354
    · have hq : p / 59 = q := by omega
      have hr : p % 59 = p - 59 * q := by omega
      rw [if_pos hp, if_pos hp, hq, hr, if_neg (by omega), if_neg (by omega)]
      omega
    · omega

end Go.Proofs.Ythhaicledbcnmaa

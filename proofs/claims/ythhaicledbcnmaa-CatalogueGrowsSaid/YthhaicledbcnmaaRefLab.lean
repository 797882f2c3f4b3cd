/- Contracts: reference 08: Exists, starts, Position, Bears, On, Numbers. -/
import Derived.Test.YthhaicledbcnmaaLabB
import Derived.Test.YthhaicledbcnmaaRefL
import Derived.Outline
set_option linter.unusedSimpArgs false
set_option linter.unusedVariables false
set_option linter.unusedSectionVars false
namespace Go.Proofs.Ythhaicledbcnmaa
open Go.ChangeShapes Go.WideShapes Go.ChangeAt Go.RowKit
set_option maxHeartbeats 800000

def startsL : List Int := [101, 131, 301, 331, 429, 529, 627, 727, 825, 924, 1023, 1122, 1221]
/-- The lunations that have begun before the day n, and the position that the loop of the reference holds ahead of it. -/
def begun (n : Int) : Nat := if n = 0 then 0 else (lun (n - 1) + 1).toNat
def ahead (n : Int) : Int := if n = 0 then 0 else psn (n - 1)
def stepOk (m d : Int) : Bool := decide (Ex m d →
  (begun (dayN m d) < 13 ∧ startsL[begun (dayN m d)]! = 100 * m + d ∧ begun (dayN m d + 1) = begun (dayN m d) + 1 ∧ ahead (dayN m d + 1) = 0) ∨
  ((begun (dayN m d) < 13 → startsL[begun (dayN m d)]! ≠ 100 * m + d) ∧ begun (dayN m d + 1) = begun (dayN m d) ∧ ahead (dayN m d + 1) = ahead (dayN m d) + 1))
theorem step_all : ∀ m : Fin 13, ∀ d : Fin 32, stepOk (m.val : Int) (d.val : Int) = true := by decide +kernel
theorem step_ok (m d : Int) (h : Ex m d) :
  (begun (dayN m d) < 13 ∧ startsL[begun (dayN m d)]! = 100 * m + d ∧ begun (dayN m d + 1) = begun (dayN m d) + 1 ∧ ahead (dayN m d + 1) = 0) ∨
  ((begun (dayN m d) < 13 → startsL[begun (dayN m d)]! ≠ 100 * m + d) ∧ begun (dayN m d + 1) = begun (dayN m d) ∧ ahead (dayN m d + 1) = ahead (dayN m d) + 1) := by
  obtain ⟨h1, h2, h3, h4⟩ := id h
  have hb := mlen_bounds false m h1 h2
  have := step_all ⟨m.toNat, by omega⟩ ⟨d.toNat, by omega⟩
  simp only [Int.toNat_of_nonneg (show 0 ≤ m by omega), Int.toNat_of_nonneg (show 0 ≤ d by omega), stepOk] at this
  exact of_decide_eq_true this h
theorem begun_le (n : Int) (h : n ≤ 365) (h0 : 0 ≤ n) : begun n ≤ 13 ∧ 0 ≤ ahead n ∧ ahead n ≤ 29 := by
  unfold begun ahead
  by_cases e : n = 0
  · simp [e]
  · rw [if_neg e, if_neg e]
    unfold lun psn
    by_cases h1 : n - 1 < 354
    · rw [if_pos h1, if_pos h1]
      split <;> omega
    · rw [if_neg h1, if_neg h1]
      omega
theorem begun_fin (n : Int) (h0 : 0 ≤ n) (h : n ≤ 364) : (begun (n + 1) : Int) - 1 = lun n ∧ ahead (n + 1) = psn n := by
  have hl : 0 ≤ lun n := by
    unfold lun
    by_cases h1 : n < 354
    · rw [if_pos h1]
      split <;> omega
    · rw [if_neg h1]; omega
  unfold begun ahead
  rw [if_neg (by omega), if_neg (by omega), show n + 1 - 1 = n from by omega]
  exact ⟨by omega, rfl⟩
theorem rExists_of (m d : Int) (w : World) :
    Calls Try.prog 27 #[.int .i64 m, .int .i64 d] w fun e w' => e = .returned (.bool (decide (Ex m d))) ∧ w = w' := by
  have K := Lib.hid (rLen_any false m w)
  have hm : Ex m d ↔ 1 ≤ d ∧ d ≤ mlen false m := by
    unfold Ex
    by_cases h : m < 1 ∨ 12 < m
    · rw [mlen_out _ _ h]; omega
    · omega
  have hr : -100 ≤ mlen false m ∧ mlen false m ≤ 100 := by
    by_cases h : m < 1 ∨ 12 < m
    · rw [mlen_out _ _ h]; omega
    · have := mlen_bounds false m (by omega) (by omega); omega
  have hd : decide (Ex m d) = (decide (1 ≤ d) && decide (d ≤ mlen false m)) := by rw [← Bool.decide_and]; exact decide_eq_decide.mpr hm
  rw [hd]
  clear hd hm
  generalize mlen false m = n at *
  by_cases h1 : 1 ≤ d
  · by_cases h2 : d ≤ n
    · go_enter Try.func27, Try.ntmps27
      go_wp2_with (go_at_call 29; refine (K.out).mono ?_; rintro e w1 ⟨rfl, rfl⟩)
      go_ret
      exact ⟨by simp [h1, h2], rfl⟩
    · go_enter Try.func27, Try.ntmps27
      go_wp2_with (go_at_call 29; refine (K.out).mono ?_; rintro e w1 ⟨rfl, rfl⟩)
      go_ret
      exact ⟨by simp [h1, h2], rfl⟩
  · go_enter Try.func27, Try.ntmps27
    go_wp2
    go_ret
    exact ⟨by simp [show ¬ 1 ≤ d from by omega], rfl⟩
end Go.Proofs.Ythhaicledbcnmaa

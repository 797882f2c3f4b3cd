/- Contracts: package anchor: of, Check. -/
import Derived.Test.YthhaicledbcnmaaCiv
import Derived.Test.YthhaicledbcnmaaRefLab
import Derived.Outline
set_option linter.unusedSimpArgs false
set_option linter.unusedVariables false
set_option linter.unusedSectionVars false
namespace Go.Proofs.Ythhaicledbcnmaa
open Go.ChangeShapes Go.WideShapes Go.ChangeAt Go.RowKit
set_option maxHeartbeats 1000000
set_option maxRecDepth 20000

/-- The day of a common year. -/
def atY (m d : Int) : Int := dayN m d + 1
/-- A well-formed anchor. -/
def ancF (m d : Int) : Bool := decide (1 ≤ d ∧ d ≤ mlen false m)
def ancP (o : Int) : Bool := decide (-80 ≤ o ∧ o ≤ 250)
def ancN (m d wd c : Int) : Bool := decide ((1 ≤ d ∧ d ≤ mlen false m) ∧ (0 ≤ wd ∧ wd ≤ 6) ∧ ((1 ≤ c ∧ c ≤ 8) ∧ atY m d + 7 * c - 1 ≤ 365 ∨ (-8 ≤ c ∧ c ≤ -1) ∧ 1 ≤ atY m d + 7 * c + 1))
theorem lp2001 : lp 2 2001 = false := by decide
theorem mlen_no (b : Bool) (m : Int) (h : m < 1 ∨ 12 < m) : mlen b m = 0 := if_pos h
theorem Len_k (m : Int) (w : World) : Calls Try.prog 54 #[.int .i64 2001, .int .i64 m] w fun e w' => e = .returned (.int .i64 (mlen false m)) ∧ Kept w w' := by
  have h := Length_any 2001 m w
  rw [lp2001] at h
  exact h.mono fun e w' ⟨a, b⟩ => ⟨a, b ▸ Kept.refl _⟩
theorem mlen_range (m : Int) : 0 ≤ mlen false m ∧ mlen false m ≤ 31 := by
  by_cases h : m < 1 ∨ 12 < m
  · rw [mlen_no _ _ h]; decide
  · rcases month_cases m (by omega) (by omega) with rfl | rfl | rfl | rfl | rfl | rfl | rfl | rfl | rfl | rfl | rfl | rfl <;> decide
theorem fixed_valid (m d : Int) (w : World) :
    Calls Try.prog 53 #[.agg #[.int .i64 m, .int .i64 d]] w fun e w' => e = .returned (.bool (ancF m d)) ∧ Kept w w' := by
  have hv : ancF m d = decide (1 ≤ d ∧ d ≤ mlen false m) := rfl
  have KL := Lib.hid (fun w => Len_k m w)
  have hr := mlen_range m
  generalize mlen false m = x at *
  by_cases h1 : 1 ≤ d
  · by_cases h2 : d ≤ x
    · have e : ancF m d = true := by rw [hv]; simp [h1, h2]
      rw [e]
      clear e hv
      go_enter Try.func53, Try.ntmps53
      go_wp2_with fail
      go_region_held3 (fun w' => Kept (w.alloc (.cells #[.int .i64 m, .int .i64 d] 56)) w' ∧ (∀ b o, b < (w.alloc (.cells #[.int .i64 m, .int .i64 d] 56)).heap.size → w'.cell? ⟨b, o, none⟩ = (w.alloc (.cells #[.int .i64 m, .int .i64 d] 56)).cell? ⟨b, o, none⟩)) (first | exact held_of (Kept.drew (Kept.refl _)) | exact held_of (Kept.trans (And.left (by assumption)) (by assumption))) (first | (go_at_call 54; refine (KL.out _).mono ?_; rintro e w1 ⟨rfl, hk1⟩))
      go_wp2
      go_ret
      exact ⟨rfl, (by repeat (first | with_reducible exact Kept.refl _ | with_reducible assumption | with_reducible refine Kept.drew ?_ | with_reducible refine Kept.drewN ?_ _ | with_reducible refine Kept.alloc ?_ _ | (with_reducible refine Kept.setCell ?_ (by first | exact Nat.le_refl _ | omega | (simp; done) | (simp; omega)) _) | (with_reducible refine Kept.trans ?_ (by with_reducible assumption))))⟩
    · have e : ancF m d = false := by rw [hv]; simp [h2]
      rw [e]
      have h3 : decide (d ≤ x) = false := decide_eq_false h2
      clear e hv
      go_enter Try.func53, Try.ntmps53
      go_wp2_with fail
      go_region_held3 (fun w' => Kept (w.alloc (.cells #[.int .i64 m, .int .i64 d] 56)) w' ∧ (∀ b o, b < (w.alloc (.cells #[.int .i64 m, .int .i64 d] 56)).heap.size → w'.cell? ⟨b, o, none⟩ = (w.alloc (.cells #[.int .i64 m, .int .i64 d] 56)).cell? ⟨b, o, none⟩)) (first | exact held_of (Kept.drew (Kept.refl _)) | exact held_of (Kept.trans (And.left (by assumption)) (by assumption))) (first | (go_at_call 54; refine (KL.out _).mono ?_; rintro e w1 ⟨rfl, hk1⟩))
      go_wp2
      go_ret
      exact ⟨rfl, (by repeat (first | with_reducible exact Kept.refl _ | with_reducible assumption | with_reducible refine Kept.drew ?_ | with_reducible refine Kept.drewN ?_ _ | with_reducible refine Kept.alloc ?_ _ | (with_reducible refine Kept.setCell ?_ (by first | exact Nat.le_refl _ | omega | (simp; done) | (simp; omega)) _) | (with_reducible refine Kept.trans ?_ (by with_reducible assumption))))⟩
  · have e : ancF m d = false := by rw [hv]; simp [h1]
    rw [e]
    have h3 : decide (1 ≤ d) = false := decide_eq_false h1
    clear e hv
    go_enter Try.func53, Try.ntmps53
    go_wp2_with fail
    go_quiet (fail)
    go_wp2
    go_ret
    exact ⟨rfl, (by repeat (first | with_reducible exact Kept.refl _ | with_reducible assumption | with_reducible refine Kept.drew ?_ | with_reducible refine Kept.drewN ?_ _ | with_reducible refine Kept.alloc ?_ _ | (with_reducible refine Kept.setCell ?_ (by first | exact Nat.le_refl _ | omega | (simp; done) | (simp; omega)) _) | (with_reducible refine Kept.trans ?_ (by with_reducible assumption))))⟩
theorem paschal_valid (o : Int) (w : World) :
    Calls Try.prog 57 #[.agg #[.int .i64 o]] w fun e w' => e = .returned (.bool (ancP o)) ∧ Kept w w' := by
  have hv : ancP o = decide (-80 ≤ o ∧ o ≤ 250) := rfl
  by_cases h1 : -80 ≤ o
  · by_cases h2 : o ≤ 250
    · have e : ancP o = true := by rw [hv]; simp [h1, h2]
      rw [e]
      clear e hv
      go_enter Try.func57, Try.ntmps57
      go_wp2
      go_ret
      exact ⟨rfl, (by repeat (first | with_reducible exact Kept.refl _ | with_reducible assumption | with_reducible refine Kept.drew ?_ | with_reducible refine Kept.drewN ?_ _ | with_reducible refine Kept.alloc ?_ _ | (with_reducible refine Kept.setCell ?_ (by first | exact Nat.le_refl _ | omega | (simp; done) | (simp; omega)) _) | (with_reducible refine Kept.trans ?_ (by with_reducible assumption))))⟩
    · have e : ancP o = false := by rw [hv]; simp [h2]
      rw [e]
      clear e hv
      go_enter Try.func57, Try.ntmps57
      go_wp2
      go_ret
      exact ⟨rfl, (by repeat (first | with_reducible exact Kept.refl _ | with_reducible assumption | with_reducible refine Kept.drew ?_ | with_reducible refine Kept.drewN ?_ _ | with_reducible refine Kept.alloc ?_ _ | (with_reducible refine Kept.setCell ?_ (by first | exact Nat.le_refl _ | omega | (simp; done) | (simp; omega)) _) | (with_reducible refine Kept.trans ?_ (by with_reducible assumption))))⟩
  · have e : ancP o = false := by rw [hv]; simp [h1]
    rw [e]
    clear e hv
    go_enter Try.func57, Try.ntmps57
    go_wp2
    go_ret
    exact ⟨rfl, (by repeat (first | with_reducible exact Kept.refl _ | with_reducible assumption | with_reducible refine Kept.drew ?_ | with_reducible refine Kept.drewN ?_ _ | with_reducible refine Kept.alloc ?_ _ | (with_reducible refine Kept.setCell ?_ (by first | exact Nat.le_refl _ | omega | (simp; done) | (simp; omega)) _) | (with_reducible refine Kept.trans ?_ (by with_reducible assumption))))⟩
theorem ancF_ex (m d : Int) : ancF m d = decide (Ex m d) := by
  unfold ancF Ex
  apply decide_eq_decide.mpr
  by_cases h : m < 1 ∨ 12 < m
  · rw [mlen_no _ _ h]; omega
  · omega
theorem day2001 (m d : Int) (h : Ex m d) : tdE 2 2001 m d = 0 ∧ tdN 2 2001 m d = fst 2 2001 + dayN m d := by
  obtain ⟨h1, h2, h3, h4⟩ := h
  have o : OkD 2 2001 m d := ⟨by decide, by decide, h1, h2, h3, by rw [lp2001]; exact h4⟩
  rcases td_cases 2 2001 m d with ⟨g, _⟩ | ⟨⟨_, _, g⟩, _⟩ | ⟨_, e1, e2⟩
  · omega
  · exact absurd o g
  · refine ⟨e2, e1.trans ?_⟩
    unfold num dayN
    rw [lp2001]
    omega
theorem fixed_day (m d : Int) (y : Int) (w : World) :
    Calls Try.prog 52 #[.agg #[.int .i64 m, .int .i64 d], .int .i64 y] w fun e w' => e = .returned (.tuple #[.int .i64 (tdN 2 y m d), .int .i64 (tdE 2 y m d)]) ∧ Kept w w' := by
  have KT := Lib.hid (fun w => GToDay_all y m d w)
  generalize tdN 2 y m d = a at *
  generalize tdE 2 y m d = b at *
  go_enter Try.func52, Try.ntmps52
  go_wp2_with fail
  go_at_call 61
  (with_reducible refine (KT.out _).mono ?_)
  rintro e w1 ⟨rfl, hk1⟩
  go_wp2
  go_ret2
  exact ⟨rfl, (by repeat (first | with_reducible exact Kept.refl _ | with_reducible assumption | with_reducible refine Kept.drew ?_ | with_reducible refine Kept.drewN ?_ _ | with_reducible refine Kept.alloc ?_ _ | (with_reducible refine Kept.setCell ?_ (by first | exact Nat.le_refl _ | omega | (simp; done) | (simp; omega)) _) | (with_reducible refine Kept.trans ?_ (by with_reducible assumption))))⟩
theorem fst2001 : fst 2 2001 = 730486 := by decide
theorem dayN_range (m d : Int) (h : Ex m d) : 0 ≤ dayN m d ∧ dayN m d ≤ 364 := dayN_bounds m d h
set_option maxHeartbeats 2000000 in
theorem nth_valid (m d wd c : Int) (w : World) (bc : -9223372036854775808 ≤ c ∧ c ≤ 9223372036854775807) :
    Calls Try.prog 59 #[.agg #[.int .i64 m, .int .i64 d, .int .i64 wd, .int .i64 c]] w fun e w' => e = .returned (.bool (ancN m d wd c)) ∧ Kept w w' := by
  have hv : ancN m d wd c = decide ((1 ≤ d ∧ d ≤ mlen false m) ∧ (0 ≤ wd ∧ wd ≤ 6) ∧ ((1 ≤ c ∧ c ≤ 8) ∧ atY m d + 7 * c - 1 ≤ 365 ∨ (-8 ≤ c ∧ c ≤ -1) ∧ 1 ≤ atY m d + 7 * c + 1)) := rfl
  have KV := Lib.hid (fun w => fixed_valid m d w)
  have hf : ancF m d = decide (1 ≤ d ∧ d ≤ mlen false m) := rfl
  by_cases hex : Ex m d
  · have hx : 1 ≤ d ∧ d ≤ mlen false m := by have := ancF_ex m d; rw [decide_eq_true hex, hf] at this; simpa using this
    have hd := dayN_range m d hex
    have KD := Lib.hid (fun w => fixed_day m d 2001 w)
    rw [(day2001 m d hex).1, (day2001 m d hex).2, fst2001] at KD
    have KF := Lib.hid (fun w => First_ok 2001 w (by decide) (by decide))
    rw [fst2001] at KF
    rw [hf, decide_eq_true hx] at KV
    have hA : atY m d = dayN m d + 1 := rfl
    rw [hA] at hv
    generalize dayN m d = p at *
    clear hf hA hex
    have hcase : ∃ b : Bool, ancN m d wd c = b ∧ ((wd < 0 ∧ b = false) ∨ (6 < wd ∧ 0 ≤ wd ∧ b = false) ∨ ((0 ≤ wd ∧ wd ≤ 6) ∧ ((1 ≤ c ∧ c ≤ 8 ∧ p + 1 + 7 * c - 1 ≤ 365 ∧ b = true) ∨ (1 ≤ c ∧ c ≤ 8 ∧ ¬ p + 1 + 7 * c - 1 ≤ 365 ∧ b = false) ∨ (c ≤ -1 ∧ -8 ≤ c ∧ 1 ≤ p + 1 + 7 * c + 1 ∧ b = true) ∨ (c ≤ -1 ∧ -8 ≤ c ∧ ¬ 1 ≤ p + 1 + 7 * c + 1 ∧ b = false) ∨ (c = 0 ∧ b = false) ∨ (9 ≤ c ∧ b = false) ∨ (c ≤ -9 ∧ b = false)))) := by
      refine ⟨_, rfl, ?_⟩
      rw [hv]
      simp only [decide_eq_true_eq, decide_eq_false_iff_not]
      omega
    obtain ⟨b, hb, hcase⟩ := hcase
    rw [hb]
    clear hv hb hx
    rcases hcase with ⟨h1, rfl⟩ | ⟨h1, h2, rfl⟩ | ⟨⟨h1, h2⟩, ⟨h3, h4, h5, rfl⟩ | ⟨h3, h4, h5, rfl⟩ | ⟨h3, h4, h5, rfl⟩ | ⟨h3, h4, h5, rfl⟩ | ⟨rfl, rfl⟩ | ⟨h3, rfl⟩ | ⟨h3, rfl⟩⟩
    iterate 2
      · go_enter Try.func59, Try.ntmps59
        go_wp2_with fail
        (go_at_call 53; refine (KV.out _).mono ?_; rintro e w1 ⟨rfl, hk1⟩)
        have hB1_1 := hk1
        obtain ⟨hc1_1, hf1_1⟩ := kept_cells hB1_1
        have hz1_0_1 : w.heap.size < w1.heap.size := by have := hB1_1.size; simp at this; omega
        go_wp2
        go_ret
        exact ⟨rfl, (by repeat (first | with_reducible exact Kept.refl _ | with_reducible assumption | with_reducible refine Kept.drew ?_ | with_reducible refine Kept.drewN ?_ _ | with_reducible refine Kept.alloc ?_ _ | (with_reducible refine Kept.setCell ?_ (by first | exact Nat.le_refl _ | omega | (simp; done) | (simp; omega)) _) | (with_reducible refine Kept.trans ?_ (by with_reducible assumption))))⟩
    all_goals
      go_enter Try.func59, Try.ntmps59
      go_wp2_with fail
      (go_at_call 53; refine (KV.out _).mono ?_; rintro e w1 ⟨rfl, hk1⟩)
      have hB1_1 := hk1
      obtain ⟨hc1_1, hf1_1⟩ := kept_cells hB1_1
      have hz1_0_1 : w.heap.size < w1.heap.size := by have := hB1_1.size; simp at this; omega
      go_wp2_with fail
      (go_at_call 52; refine (KD.out _).mono ?_; rintro e w2 ⟨rfl, hk2⟩)
      have hB1_2 := Kept.trans hB1_1 hk2
      obtain ⟨hc1_2, hf1_2⟩ := kept_cells hB1_2
      have hz1_0_2 : w.heap.size < w2.heap.size := by have := hB1_2.size; simp at this; omega
      go_wp2_with fail
      (go_at_call 60; refine (KF.out _).mono ?_; rintro e w1 ⟨rfl, rfl⟩)
      go_wp2
      go_ret
      refine ⟨?_, (by repeat (first | with_reducible exact Kept.refl _ | with_reducible assumption | with_reducible refine Kept.drew ?_ | with_reducible refine Kept.drewN ?_ _ | with_reducible refine Kept.alloc ?_ _ | (with_reducible refine Kept.setCell ?_ (by first | exact Nat.le_refl _ | omega | (simp; done) | (simp; omega)) _) | (with_reducible refine Kept.trans ?_ (by with_reducible assumption))))⟩
      first
      | rfl
      | (show Ending.returned (Value.bool _) = Ending.returned (Value.bool _); apply ret_bool; first | (apply decide_eq_true; omega) | (apply decide_eq_false; omega))
  · have hx : ¬ (1 ≤ d ∧ d ≤ mlen false m) := by have := ancF_ex m d; rw [decide_eq_false hex, hf] at this; simpa using this
    have e : ancN m d wd c = false := by rw [hv, decide_eq_false_iff_not]; exact fun g => hx g.1
    rw [e]
    rw [hf, decide_eq_false hx] at KV
    clear e hv hx hf hex
    go_enter Try.func59, Try.ntmps59
    go_wp2_with (go_at_call 53; refine (KV.out _).mono ?_; rintro e w1 ⟨rfl, hk1⟩)
    go_ret
    exact ⟨rfl, (by repeat (first | with_reducible exact Kept.refl _ | with_reducible assumption | with_reducible refine Kept.drew ?_ | with_reducible refine Kept.drewN ?_ _ | with_reducible refine Kept.alloc ?_ _ | (with_reducible refine Kept.setCell ?_ (by first | exact Nat.le_refl _ | omega | (simp; done) | (simp; omega)) _) | (with_reducible refine Kept.trans ?_ (by with_reducible assumption))))⟩
end Go.Proofs.Ythhaicledbcnmaa

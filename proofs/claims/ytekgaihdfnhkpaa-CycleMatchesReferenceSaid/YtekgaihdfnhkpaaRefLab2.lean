/- Contracts: reference 08: Bears, Numbers. -/
import Derived.Test.YtekgaihdfnhkpaaRefLab
import Derived.Outline
set_option linter.unusedSimpArgs false
set_option linter.unusedVariables false
set_option linter.unusedSectionVars false
namespace Go.Proofs.Ytekgaihdfnhkpaa
open Go.ChangeShapes Go.WideShapes Go.ChangeAt Go.RowKit
set_option maxHeartbeats 800000

theorem lun_psn_bounds (m d : Int) (h : Ex m d) : 0 ≤ lun (dayN m d) ∧ lun (dayN m d) ≤ 12 ∧ 0 ≤ psn (dayN m d) ∧ psn (dayN m d) ≤ 29 ∧ (lun (dayN m d) % 2 = 1 → psn (dayN m d) ≤ 28) := by
  obtain ⟨p1, p2⟩ := dayN_bounds m d h
  unfold lun psn
  by_cases h1 : dayN m d < 354
  · rw [if_pos h1, if_pos h1]
    split <;> omega
  · rw [if_neg h1, if_neg h1]
    omega
theorem rBears_of (m d l : Int) (w : World) :
    Calls Try.prog 61 #[.int .i64 m, .int .i64 d, .int .i64 l] w fun e w' => e = .returned (.bool (bears m d l)) ∧ Kept w w' := by
  by_cases h : Ex m d
  · have KO := Lib.hid (rPosition_ok m d w h)
    have hb : bears m d l = decide (l ∈ onD m d) := by simp [bears, h]
    rw [hb]
    obtain ⟨l1, l2, p1, p2, _⟩ := lun_psn_bounds m d h
    unfold onD
    clear hb h
    generalize lun (dayN m d) = n at *
    generalize psn (dayN m d) = p at *
    unfold onL
    by_cases e : n % 2 = 0
    · rw [if_pos e]
      by_cases e1 : l = 30 - p
      · have hr : decide (l ∈ if p = 5 then [31, 25] else [30 - p]) = true := by
          split
          · simp; omega
          · simp [e1]
        rw [hr]
        clear hr
        go_enter Try.func61, Try.ntmps61
        go_wp2_with (go_at_call 65; refine (KO.out).mono ?_; rintro e w1 ⟨rfl, hk1⟩)
        go_ret
        exact ⟨by first | rfl | (show Ending.returned (Value.bool _) = Ending.returned (Value.bool _); simp [*]; done) | (show Ending.returned (Value.bool _) = Ending.returned (Value.bool _); simp; omega), (by repeat (first | with_reducible exact Kept.refl _ | with_reducible assumption | with_reducible refine Kept.drew ?_ | with_reducible refine Kept.drewN ?_ _ | with_reducible refine Kept.alloc ?_ _ | (with_reducible refine Kept.setCell ?_ (by first | exact Nat.le_refl _ | omega | (simp; done) | (simp; omega)) _) | (with_reducible refine Kept.trans ?_ (by with_reducible assumption))))⟩
      · by_cases e2 : l = 31
        · by_cases e3 : p = 5
          · subst e3
            subst e2
            go_enter Try.func61, Try.ntmps61
            go_wp2_with (go_at_call 65; refine (KO.out).mono ?_; rintro e w1 ⟨rfl, hk1⟩)
            go_ret
            exact ⟨by first | rfl | (show Ending.returned (Value.bool _) = Ending.returned (Value.bool _); simp [*]; done) | (show Ending.returned (Value.bool _) = Ending.returned (Value.bool _); simp; omega), (by repeat (first | with_reducible exact Kept.refl _ | with_reducible assumption | with_reducible refine Kept.drew ?_ | with_reducible refine Kept.drewN ?_ _ | with_reducible refine Kept.alloc ?_ _ | (with_reducible refine Kept.setCell ?_ (by first | exact Nat.le_refl _ | omega | (simp; done) | (simp; omega)) _) | (with_reducible refine Kept.trans ?_ (by with_reducible assumption))))⟩
          · rw [if_neg e3, show decide (l ∈ [30 - p]) = false by simp [e1]]
            go_enter Try.func61, Try.ntmps61
            go_wp2_with (go_at_call 65; refine (KO.out).mono ?_; rintro e w1 ⟨rfl, hk1⟩)
            go_ret
            exact ⟨by first | rfl | (show Ending.returned (Value.bool _) = Ending.returned (Value.bool _); simp [*]; done) | (show Ending.returned (Value.bool _) = Ending.returned (Value.bool _); simp; omega), (by repeat (first | with_reducible exact Kept.refl _ | with_reducible assumption | with_reducible refine Kept.drew ?_ | with_reducible refine Kept.drewN ?_ _ | with_reducible refine Kept.alloc ?_ _ | (with_reducible refine Kept.setCell ?_ (by first | exact Nat.le_refl _ | omega | (simp; done) | (simp; omega)) _) | (with_reducible refine Kept.trans ?_ (by with_reducible assumption))))⟩
        · have hr : decide (l ∈ if p = 5 then [31, 25] else [30 - p]) = false := by
            split
            · simp; omega
            · simp [e1]
          rw [hr]
          clear hr
          go_enter Try.func61, Try.ntmps61
          go_wp2_with (go_at_call 65; refine (KO.out).mono ?_; rintro e w1 ⟨rfl, hk1⟩)
          go_ret
          exact ⟨by first | rfl | (show Ending.returned (Value.bool _) = Ending.returned (Value.bool _); simp [*]; done) | (show Ending.returned (Value.bool _) = Ending.returned (Value.bool _); simp; omega), (by repeat (first | with_reducible exact Kept.refl _ | with_reducible assumption | with_reducible refine Kept.drew ?_ | with_reducible refine Kept.drewN ?_ _ | with_reducible refine Kept.alloc ?_ _ | (with_reducible refine Kept.setCell ?_ (by first | exact Nat.le_refl _ | omega | (simp; done) | (simp; omega)) _) | (with_reducible refine Kept.trans ?_ (by with_reducible assumption))))⟩
    · have e0 : n % 2 = 1 := by omega
      rw [if_neg e]
      by_cases g4 : p ≤ 4
      · rw [if_neg (show ¬ p = 5 by omega), if_neg (show ¬ 5 < p by omega)]
        by_cases e1 : l = 30 - p
        · have hr : decide (l ∈ if p = 4 then [31, 26] else [30 - p]) = true := by
            split
            · simp; omega
            · simp [e1]
          rw [hr]
          clear hr
          go_enter Try.func61, Try.ntmps61
          go_wp2_with (go_at_call 65; refine (KO.out).mono ?_; rintro e w1 ⟨rfl, hk1⟩)
          go_ret
          exact ⟨by first | rfl | (show Ending.returned (Value.bool _) = Ending.returned (Value.bool _); simp [*]; done) | (show Ending.returned (Value.bool _) = Ending.returned (Value.bool _); simp; omega), (by repeat (first | with_reducible exact Kept.refl _ | with_reducible assumption | with_reducible refine Kept.drew ?_ | with_reducible refine Kept.drewN ?_ _ | with_reducible refine Kept.alloc ?_ _ | (with_reducible refine Kept.setCell ?_ (by first | exact Nat.le_refl _ | omega | (simp; done) | (simp; omega)) _) | (with_reducible refine Kept.trans ?_ (by with_reducible assumption))))⟩
        · by_cases e2 : l = 31
          · by_cases e3 : p = 4
            · subst e3
              subst e2
              go_enter Try.func61, Try.ntmps61
              go_wp2_with (go_at_call 65; refine (KO.out).mono ?_; rintro e w1 ⟨rfl, hk1⟩)
              go_ret
              exact ⟨by first | rfl | (show Ending.returned (Value.bool _) = Ending.returned (Value.bool _); simp [*]; done) | (show Ending.returned (Value.bool _) = Ending.returned (Value.bool _); simp; omega), (by repeat (first | with_reducible exact Kept.refl _ | with_reducible assumption | with_reducible refine Kept.drew ?_ | with_reducible refine Kept.drewN ?_ _ | with_reducible refine Kept.alloc ?_ _ | (with_reducible refine Kept.setCell ?_ (by first | exact Nat.le_refl _ | omega | (simp; done) | (simp; omega)) _) | (with_reducible refine Kept.trans ?_ (by with_reducible assumption))))⟩
            · rw [if_neg e3, show decide (l ∈ [30 - p]) = false by simp [e1]]
              go_enter Try.func61, Try.ntmps61
              go_wp2_with (go_at_call 65; refine (KO.out).mono ?_; rintro e w1 ⟨rfl, hk1⟩)
              go_ret
              exact ⟨by first | rfl | (show Ending.returned (Value.bool _) = Ending.returned (Value.bool _); simp [*]; done) | (show Ending.returned (Value.bool _) = Ending.returned (Value.bool _); simp; omega), (by repeat (first | with_reducible exact Kept.refl _ | with_reducible assumption | with_reducible refine Kept.drew ?_ | with_reducible refine Kept.drewN ?_ _ | with_reducible refine Kept.alloc ?_ _ | (with_reducible refine Kept.setCell ?_ (by first | exact Nat.le_refl _ | omega | (simp; done) | (simp; omega)) _) | (with_reducible refine Kept.trans ?_ (by with_reducible assumption))))⟩
          · have hr : decide (l ∈ if p = 4 then [31, 26] else [30 - p]) = false := by
              split
              · simp; omega
              · simp [e1]
            rw [hr]
            clear hr
            go_enter Try.func61, Try.ntmps61
            go_wp2_with (go_at_call 65; refine (KO.out).mono ?_; rintro e w1 ⟨rfl, hk1⟩)
            go_ret
            exact ⟨by first | rfl | (show Ending.returned (Value.bool _) = Ending.returned (Value.bool _); simp [*]; done) | (show Ending.returned (Value.bool _) = Ending.returned (Value.bool _); simp; omega), (by repeat (first | with_reducible exact Kept.refl _ | with_reducible assumption | with_reducible refine Kept.drew ?_ | with_reducible refine Kept.drewN ?_ _ | with_reducible refine Kept.alloc ?_ _ | (with_reducible refine Kept.setCell ?_ (by first | exact Nat.le_refl _ | omega | (simp; done) | (simp; omega)) _) | (with_reducible refine Kept.trans ?_ (by with_reducible assumption))))⟩
      · rw [if_neg (show ¬ p = 4 by omega)]
        by_cases e5 : p = 5
        · rw [if_pos e5]
          subst e5
          by_cases e1 : l = 25
          · subst e1
            go_enter Try.func61, Try.ntmps61
            go_wp2_with (go_at_call 65; refine (KO.out).mono ?_; rintro e w1 ⟨rfl, hk1⟩)
            go_ret
            exact ⟨by first | rfl | (show Ending.returned (Value.bool _) = Ending.returned (Value.bool _); simp [*]; done) | (show Ending.returned (Value.bool _) = Ending.returned (Value.bool _); simp; omega), (by repeat (first | with_reducible exact Kept.refl _ | with_reducible assumption | with_reducible refine Kept.drew ?_ | with_reducible refine Kept.drewN ?_ _ | with_reducible refine Kept.alloc ?_ _ | (with_reducible refine Kept.setCell ?_ (by first | exact Nat.le_refl _ | omega | (simp; done) | (simp; omega)) _) | (with_reducible refine Kept.trans ?_ (by with_reducible assumption))))⟩
          · rw [show decide (l ∈ [25, 24]) = decide (l = 24) by simp [e1]]
            go_enter Try.func61, Try.ntmps61
            go_wp2_with (go_at_call 65; refine (KO.out).mono ?_; rintro e w1 ⟨rfl, hk1⟩)
            go_ret
            exact ⟨by first | rfl | (show Ending.returned (Value.bool _) = Ending.returned (Value.bool _); simp [*]; done) | (show Ending.returned (Value.bool _) = Ending.returned (Value.bool _); congr 2; rw [Bool.eq_iff_iff]; simp [*]; done), (by repeat (first | with_reducible exact Kept.refl _ | with_reducible assumption | with_reducible refine Kept.drew ?_ | with_reducible refine Kept.drewN ?_ _ | with_reducible refine Kept.alloc ?_ _ | (with_reducible refine Kept.setCell ?_ (by first | exact Nat.le_refl _ | omega | (simp; done) | (simp; omega)) _) | (with_reducible refine Kept.trans ?_ (by with_reducible assumption))))⟩
        · rw [if_neg e5, if_pos (show 5 < p by omega), show decide (l ∈ [29 - p]) = decide (l = 29 - p) by simp]
          go_enter Try.func61, Try.ntmps61
          go_wp2_with (go_at_call 65; refine (KO.out).mono ?_; rintro e w1 ⟨rfl, hk1⟩)
          go_ret
          exact ⟨by first | rfl | (show Ending.returned (Value.bool _) = Ending.returned (Value.bool _); simp [*]; done) | (show Ending.returned (Value.bool _) = Ending.returned (Value.bool _); congr 2; rw [Bool.eq_iff_iff]; simp [*]; done), (by repeat (first | with_reducible exact Kept.refl _ | with_reducible assumption | with_reducible refine Kept.drew ?_ | with_reducible refine Kept.drewN ?_ _ | with_reducible refine Kept.alloc ?_ _ | (with_reducible refine Kept.setCell ?_ (by first | exact Nat.le_refl _ | omega | (simp; done) | (simp; omega)) _) | (with_reducible refine Kept.trans ?_ (by with_reducible assumption))))⟩
  · have KO := Lib.hid (rPosition_no m d w h)
    have hb : bears m d l = false := by simp [bears, h]
    rw [hb]
    clear hb h
    go_enter Try.func61, Try.ntmps61
    go_wp2_with (go_at_call 65; refine (KO.out).mono ?_; rintro e w1 ⟨rfl, hk1⟩)
    go_ret
    exact ⟨by first | rfl | (show Ending.returned (Value.bool _) = Ending.returned (Value.bool _); simp [*]; done) | (show Ending.returned (Value.bool _) = Ending.returned (Value.bool _); simp; omega), (by repeat (first | with_reducible exact Kept.refl _ | with_reducible assumption | with_reducible refine Kept.drew ?_ | with_reducible refine Kept.drewN ?_ _ | with_reducible refine Kept.alloc ?_ _ | (with_reducible refine Kept.setCell ?_ (by first | exact Nat.le_refl _ | omega | (simp; done) | (simp; omega)) _) | (with_reducible refine Kept.trans ?_ (by with_reducible assumption))))⟩
end Go.Proofs.Ytekgaihdfnhkpaa

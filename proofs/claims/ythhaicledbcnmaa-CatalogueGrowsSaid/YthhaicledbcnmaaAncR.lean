/- Contracts: the reference of layer 16: Check. -/
import Derived.Test.YthhaicledbcnmaaAnc2
set_option linter.unusedSimpArgs false
set_option linter.unusedVariables false
set_option linter.unusedSectionVars false
namespace Go.Proofs.Ythhaicledbcnmaa
open Go.ChangeShapes Go.WideShapes Go.ChangeAt Go.RowKit
set_option maxHeartbeats 1000000
set_option maxRecDepth 20000

theorem rOfYear_ok (m d : Int) (w : World) (h : Ex m d) :
    Calls Try.prog 28 #[.int .i64 m, .int .i64 d] w fun e w' => e = .returned (.int .i64 (atY m d)) ∧ Kept w w' := by
  have KT := Lib.hid (fun w => rToDay_all 2001 m d w)
  have KF := Lib.hid (fun w => rFirst_any 2001 w (by decide) (by decide))
  rw [fst2001] at KF
  rw [(day2001 m d h).1, (day2001 m d h).2, fst2001] at KT
  have hd := dayN_range m d h
  have hA : atY m d = 730486 + dayN m d - 730486 + 1 := by unfold atY; omega
  rw [hA]
  generalize dayN m d = p at *
  clear hA h
  go_enter Try.func28, Try.ntmps28
  go_wp2_with fail
  (go_at_call 30; refine (KT.out _).mono ?_; rintro e w1 ⟨rfl, hk1⟩)
  go_wp2_with fail
  (go_at_call 31; refine (KF.out _).mono ?_; rintro e w1 ⟨rfl, rfl⟩)
  go_wp2
  go_ret
  exact ⟨rfl, (by repeat (first | with_reducible exact Kept.refl _ | with_reducible assumption | with_reducible refine Kept.drew ?_ | with_reducible refine Kept.drewN ?_ _ | with_reducible refine Kept.alloc ?_ _ | (with_reducible refine Kept.setCell ?_ (by first | exact Nat.le_refl _ | omega | (simp; done) | (simp; omega)) _) | (with_reducible refine Kept.trans ?_ (by with_reducible assumption))))⟩
set_option maxHeartbeats 4000000 in
theorem rACheck_any (k m d o wd c : Int) (w : World) (bc : -9223372036854775808 ≤ c ∧ c ≤ 9223372036854775807) :
    Calls Try.prog 23 #[.agg #[.int .i64 k, .int .i64 m, .int .i64 d, .int .i64 o, .int .i64 wd, .int .i64 c]] w fun e w' => e = .returned (.bool (ancB k m d o wd c)) ∧ Kept w w' := by
  by_cases k2 : k = 2
  · subst k2
    have e : ancB 2 m d o wd c = (decide (m = 0 ∧ d = 0 ∧ wd = 0 ∧ c = 0) && decide (-80 ≤ o ∧ o ≤ 250)) := by unfold ancB; rw [if_neg (by decide), if_pos rfl]; rfl
    have hcase : ∃ b : Bool, ancB 2 m d o wd c = b ∧ ((m ≠ 0 ∧ b = false) ∨ (m = 0 ∧ d ≠ 0 ∧ b = false) ∨ (m = 0 ∧ d = 0 ∧ wd ≠ 0 ∧ b = false) ∨ (m = 0 ∧ d = 0 ∧ wd = 0 ∧ c ≠ 0 ∧ b = false) ∨ (m = 0 ∧ d = 0 ∧ wd = 0 ∧ c = 0 ∧ o < -80 ∧ b = false) ∨ (m = 0 ∧ d = 0 ∧ wd = 0 ∧ c = 0 ∧ -80 ≤ o ∧ 250 < o ∧ b = false) ∨ (m = 0 ∧ d = 0 ∧ wd = 0 ∧ c = 0 ∧ -80 ≤ o ∧ o ≤ 250 ∧ b = true)) := by
      refine ⟨_, rfl, ?_⟩
      rw [e]
      simp only [← Bool.decide_and, decide_eq_true_eq, decide_eq_false_iff_not]
      omega
    obtain ⟨b, hb, hcase⟩ := hcase
    rw [hb]
    clear e hb
    rcases hcase with ⟨h1, rfl⟩ | ⟨rfl, h1, rfl⟩ | ⟨rfl, rfl, h1, rfl⟩ | ⟨rfl, rfl, rfl, h1, rfl⟩ | ⟨rfl, rfl, rfl, rfl, h1, rfl⟩ | ⟨rfl, rfl, rfl, rfl, h1, h2, rfl⟩ | ⟨rfl, rfl, rfl, rfl, h1, h2, rfl⟩
    · have g := beq_false_of_ne h1
      go_enter Try.func23, Try.ntmps23
      go_wp2
      go_ret
      exact ⟨rfl, (by repeat (first | with_reducible exact Kept.refl _ | with_reducible assumption | with_reducible refine Kept.drew ?_ | with_reducible refine Kept.drewN ?_ _ | with_reducible refine Kept.alloc ?_ _ | (with_reducible refine Kept.setCell ?_ (by first | exact Nat.le_refl _ | omega | (simp; done) | (simp; omega)) _) | (with_reducible refine Kept.trans ?_ (by with_reducible assumption))))⟩
    · have g := beq_false_of_ne h1
      go_enter Try.func23, Try.ntmps23
      go_wp2
      go_ret
      exact ⟨rfl, (by repeat (first | with_reducible exact Kept.refl _ | with_reducible assumption | with_reducible refine Kept.drew ?_ | with_reducible refine Kept.drewN ?_ _ | with_reducible refine Kept.alloc ?_ _ | (with_reducible refine Kept.setCell ?_ (by first | exact Nat.le_refl _ | omega | (simp; done) | (simp; omega)) _) | (with_reducible refine Kept.trans ?_ (by with_reducible assumption))))⟩
    · have g := beq_false_of_ne h1
      go_enter Try.func23, Try.ntmps23
      go_wp2
      go_ret
      exact ⟨rfl, (by repeat (first | with_reducible exact Kept.refl _ | with_reducible assumption | with_reducible refine Kept.drew ?_ | with_reducible refine Kept.drewN ?_ _ | with_reducible refine Kept.alloc ?_ _ | (with_reducible refine Kept.setCell ?_ (by first | exact Nat.le_refl _ | omega | (simp; done) | (simp; omega)) _) | (with_reducible refine Kept.trans ?_ (by with_reducible assumption))))⟩
    · have g := beq_false_of_ne h1
      go_enter Try.func23, Try.ntmps23
      go_wp2
      go_ret
      exact ⟨rfl, (by repeat (first | with_reducible exact Kept.refl _ | with_reducible assumption | with_reducible refine Kept.drew ?_ | with_reducible refine Kept.drewN ?_ _ | with_reducible refine Kept.alloc ?_ _ | (with_reducible refine Kept.setCell ?_ (by first | exact Nat.le_refl _ | omega | (simp; done) | (simp; omega)) _) | (with_reducible refine Kept.trans ?_ (by with_reducible assumption))))⟩
    all_goals
      go_enter Try.func23, Try.ntmps23
      go_wp2
      go_ret
      refine ⟨?_, (by repeat (first | with_reducible exact Kept.refl _ | with_reducible assumption | with_reducible refine Kept.drew ?_ | with_reducible refine Kept.drewN ?_ _ | with_reducible refine Kept.alloc ?_ _ | (with_reducible refine Kept.setCell ?_ (by first | exact Nat.le_refl _ | omega | (simp; done) | (simp; omega)) _) | (with_reducible refine Kept.trans ?_ (by with_reducible assumption))))⟩
      first
      | rfl
      | (show Ending.returned (Value.bool _) = Ending.returned (Value.bool _); apply ret_bool; first | (apply decide_eq_true; omega) | (apply decide_eq_false; omega))
  · have gk := beq_false_of_ne k2
    have KX := Lib.hid (fun w => rExists_of m d w)
    by_cases hex : Ex m d
    · rw [decide_eq_true hex] at KX
      have KY := Lib.hid (fun w => rOfYear_ok m d w hex)
      have hF : ancF m d = true := by rw [ancF_ex, decide_eq_true hex]
      have hx : 1 ≤ d ∧ d ≤ mlen false m := by simpa [ancF] using hF
      have hd := dayN_range m d hex
      have hA : atY m d = dayN m d + 1 := rfl
      have hcase : ∃ b : Bool, ancB k m d o wd c = b ∧ ((o ≠ 0 ∧ b = false) ∨ o = 0 ∧ ((k = 1 ∧ (wd ≠ 0 ∧ b = false ∨ wd = 0 ∧ c ≠ 0 ∧ b = false ∨ wd = 0 ∧ c = 0 ∧ b = true)) ∨ (k ≠ 1 ∧ k ≠ 3 ∧ b = false) ∨
          k = 3 ∧ ((wd < 0 ∧ b = false) ∨ (6 < wd ∧ 0 ≤ wd ∧ b = false) ∨ ((0 ≤ wd ∧ wd ≤ 6) ∧ ((1 ≤ c ∧ c ≤ 8 ∧ atY m d + 6 + 7 * (c - 1) ≤ 365 ∧ b = true) ∨ (1 ≤ c ∧ c ≤ 8 ∧ ¬ atY m d + 6 + 7 * (c - 1) ≤ 365 ∧ b = false) ∨ (c ≤ -1 ∧ -8 ≤ c ∧ 1 ≤ atY m d - 6 - 7 * (0 - c - 1) ∧ b = true) ∨ (c ≤ -1 ∧ -8 ≤ c ∧ ¬ 1 ≤ atY m d - 6 - 7 * (0 - c - 1) ∧ b = false) ∨ (c = 0 ∧ b = false) ∨ (9 ≤ c ∧ b = false) ∨ (c ≤ -9 ∧ b = false)))))) := by
        refine ⟨_, rfl, ?_⟩
        by_cases k1 : k = 1
        · have e : ancB k m d o wd c = (decide (o = 0 ∧ wd = 0 ∧ c = 0) && true) := by unfold ancB; rw [if_pos k1, hF]
          rw [e]
          simp only [Bool.and_true, decide_eq_true_eq, decide_eq_false_iff_not]
          omega
        · by_cases k3 : k = 3
          · have e : ancB k m d o wd c = (decide (o = 0) && ancN m d wd c) := by unfold ancB; rw [if_neg k1, if_neg k2, if_pos k3]
            rw [e]
            unfold ancN
            simp only [← Bool.decide_and, decide_eq_true_eq, decide_eq_false_iff_not]
            omega
          · have e : ancB k m d o wd c = false := by unfold ancB; rw [if_neg k1, if_neg k2, if_neg k3]
            rw [e]
            by_cases ho : o = 0
            · exact .inr ⟨ho, .inr (.inl ⟨k1, k3, rfl⟩)⟩
            · exact .inl ⟨ho, rfl⟩
      obtain ⟨b, hb, hcase⟩ := hcase
      rw [hb]
      rw [hA] at hcase KY
      clear hb hF hA hx hex
      generalize dayN m d = p at *
      rcases hcase with ⟨h1, rfl⟩ | ⟨rfl, hcase⟩
      · have g := beq_false_of_ne h1
        go_enter Try.func23, Try.ntmps23
        go_wp2_with (go_at_call 27; refine (KX.out _).mono ?_; rintro e w1 ⟨rfl, rfl⟩)
        go_ret
        exact ⟨rfl, (by repeat (first | with_reducible exact Kept.refl _ | with_reducible assumption | with_reducible refine Kept.drew ?_ | with_reducible refine Kept.drewN ?_ _ | with_reducible refine Kept.alloc ?_ _ | (with_reducible refine Kept.setCell ?_ (by first | exact Nat.le_refl _ | omega | (simp; done) | (simp; omega)) _) | (with_reducible refine Kept.trans ?_ (by with_reducible assumption))))⟩
      · rcases hcase with ⟨rfl, hcase⟩ | ⟨h1, h2, rfl⟩ | ⟨rfl, hcase⟩
        · rcases hcase with ⟨h1, rfl⟩ | ⟨rfl, h1, rfl⟩ | ⟨rfl, rfl, rfl⟩
          · have g := beq_false_of_ne h1
            go_enter Try.func23, Try.ntmps23
            go_wp2_with (go_at_call 27; refine (KX.out _).mono ?_; rintro e w1 ⟨rfl, rfl⟩)
            go_ret
            exact ⟨rfl, (by repeat (first | with_reducible exact Kept.refl _ | with_reducible assumption | with_reducible refine Kept.drew ?_ | with_reducible refine Kept.drewN ?_ _ | with_reducible refine Kept.alloc ?_ _ | (with_reducible refine Kept.setCell ?_ (by first | exact Nat.le_refl _ | omega | (simp; done) | (simp; omega)) _) | (with_reducible refine Kept.trans ?_ (by with_reducible assumption))))⟩
          · have g := beq_false_of_ne h1
            go_enter Try.func23, Try.ntmps23
            go_wp2_with (go_at_call 27; refine (KX.out _).mono ?_; rintro e w1 ⟨rfl, rfl⟩)
            go_ret
            exact ⟨rfl, (by repeat (first | with_reducible exact Kept.refl _ | with_reducible assumption | with_reducible refine Kept.drew ?_ | with_reducible refine Kept.drewN ?_ _ | with_reducible refine Kept.alloc ?_ _ | (with_reducible refine Kept.setCell ?_ (by first | exact Nat.le_refl _ | omega | (simp; done) | (simp; omega)) _) | (with_reducible refine Kept.trans ?_ (by with_reducible assumption))))⟩
          · go_enter Try.func23, Try.ntmps23
            go_wp2_with (go_at_call 27; refine (KX.out _).mono ?_; rintro e w1 ⟨rfl, rfl⟩)
            go_ret
            exact ⟨rfl, (by repeat (first | with_reducible exact Kept.refl _ | with_reducible assumption | with_reducible refine Kept.drew ?_ | with_reducible refine Kept.drewN ?_ _ | with_reducible refine Kept.alloc ?_ _ | (with_reducible refine Kept.setCell ?_ (by first | exact Nat.le_refl _ | omega | (simp; done) | (simp; omega)) _) | (with_reducible refine Kept.trans ?_ (by with_reducible assumption))))⟩
        · have g1 := beq_false_of_ne h1
          have g2 := beq_false_of_ne h2
          go_enter Try.func23, Try.ntmps23
          go_wp2_with fail
          (go_at_call 27; (with_reducible refine (KX.out _).mono ?_); rintro e w1 ⟨rfl, rfl⟩)
          go_wp2_with fail
          (go_at_call 28; refine (KY.out _).mono ?_; rintro e w1 ⟨rfl, hk1⟩)
          have hB1_1 := hk1
          obtain ⟨hc1_1, hf1_1⟩ := kept_cells hB1_1
          have hz1_0_1 : w.heap.size < w1.heap.size := by have := hB1_1.size; simp at this; omega
          go_wp2
          go_ret
          exact ⟨rfl, (by repeat (first | with_reducible exact Kept.refl _ | with_reducible assumption | with_reducible refine Kept.drew ?_ | with_reducible refine Kept.drewN ?_ _ | with_reducible refine Kept.alloc ?_ _ | (with_reducible refine Kept.setCell ?_ (by first | exact Nat.le_refl _ | omega | (simp; done) | (simp; omega)) _) | (with_reducible refine Kept.trans ?_ (by with_reducible assumption))))⟩
        · rcases hcase with ⟨h1, rfl⟩ | ⟨h1, h2, rfl⟩ | ⟨⟨h1, h2⟩, ⟨h3, h4, h5, rfl⟩ | ⟨h3, h4, h5, rfl⟩ | ⟨h3, h4, h5, rfl⟩ | ⟨h3, h4, h5, rfl⟩ | ⟨rfl, rfl⟩ | ⟨h3, rfl⟩ | ⟨h3, rfl⟩⟩
          all_goals
            go_enter Try.func23, Try.ntmps23
            go_wp2_with fail
            (go_at_call 27; (with_reducible refine (KX.out _).mono ?_); rintro e w1 ⟨rfl, rfl⟩)
            go_wp2_with fail
            (go_at_call 28; refine (KY.out _).mono ?_; rintro e w1 ⟨rfl, hk1⟩)
            have hB1_1 := hk1
            obtain ⟨hc1_1, hf1_1⟩ := kept_cells hB1_1
            have hz1_0_1 : w.heap.size < w1.heap.size := by have := hB1_1.size; simp at this; omega
            go_wp2
            go_ret
            refine ⟨?_, (by repeat (first | with_reducible exact Kept.refl _ | with_reducible assumption | with_reducible refine Kept.drew ?_ | with_reducible refine Kept.drewN ?_ _ | with_reducible refine Kept.alloc ?_ _ | (with_reducible refine Kept.setCell ?_ (by first | exact Nat.le_refl _ | omega | (simp; done) | (simp; omega)) _) | (with_reducible refine Kept.trans ?_ (by with_reducible assumption))))⟩
            first
            | rfl
            | (show Ending.returned (Value.bool _) = Ending.returned (Value.bool _); apply ret_bool; first | (apply decide_eq_true; omega) | (apply decide_eq_false; omega))
    · rw [decide_eq_false hex] at KX
      have e : ancB k m d o wd c = false := by
        have hF : ancF m d = false := by rw [ancF_ex, decide_eq_false hex]
        have hx : ¬ (1 ≤ d ∧ d ≤ mlen false m) := by simpa [ancF] using hF
        have hN : ancN m d wd c = false := by unfold ancN; rw [decide_eq_false_iff_not]; exact fun g => hx g.1
        unfold ancB
        rw [if_neg k2, hF, hN]
        simp
      rw [e]
      clear e hex
      go_enter Try.func23, Try.ntmps23
      go_wp2_with (go_at_call 27; refine (KX.out _).mono ?_; rintro e w1 ⟨rfl, rfl⟩)
      go_ret
      exact ⟨rfl, (by repeat (first | with_reducible exact Kept.refl _ | with_reducible assumption | with_reducible refine Kept.drew ?_ | with_reducible refine Kept.drewN ?_ _ | with_reducible refine Kept.alloc ?_ _ | (with_reducible refine Kept.setCell ?_ (by first | exact Nat.le_refl _ | omega | (simp; done) | (simp; omega)) _) | (with_reducible refine Kept.trans ?_ (by with_reducible assumption))))⟩
end Go.Proofs.Ythhaicledbcnmaa

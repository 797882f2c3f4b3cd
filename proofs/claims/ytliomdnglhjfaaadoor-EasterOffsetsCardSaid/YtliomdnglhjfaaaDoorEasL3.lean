/- EasterOffsets. -/
import Derived.Test.YtliomdnglhjfaaaDoorEasAw
import Derived.Test.YtliomdnglhjfaaaDoorLaidG
import Derived.Test.YtliomdnglhjfaaaDoorHead
import Derived.Test.YtliomdnglhjfaaaDoorCellsD
set_option linter.unusedSimpArgs false
set_option linter.unusedVariables false
set_option linter.unusedSectionVars false
namespace Go.Proofs.YtliomdnglhjfaaaDoor
open Go.ChangeShapes Go.WideShapes Go.ChangeAt Go.RowKit Go.Joins
set_option maxHeartbeats 1000000
set_option maxRecDepth 20000

theorem nm_fit (c y m d : Int) (h : nmE c y m d = 0) : Fit c y ∧ flE c y = 0 ∧ cE c y m d = 0 := by
  unfold nmE at h
  rcases fl_cases c y with ⟨hf, e0⟩ | ⟨hf, e0⟩ | ⟨hf, e0⟩
  · rw [if_pos e0] at h; exact ⟨hf, e0, h⟩
  · rw [if_neg (by omega)] at h; omega
  · rw [if_neg (by omega)] at h; omega
theorem nm_range (c y m d : Int) : 0 ≤ nmE c y m d ∧ nmE c y m d ≤ 3 := by
  have := cE_range c y m d
  unfold nmE
  rcases fl_cases c y with ⟨hf, e0⟩ | ⟨hf, e0⟩ | ⟨hf, e0⟩
  · rw [if_pos e0]; exact this
  · rw [if_neg (by omega)]; omega
  · rw [if_neg (by omega)]; omega
theorem off_at (c y m d n : Int) (h : flE c y = 0) (hz : cE c y m d = 0) (hn : cN c y m d = n) (w : World) (hT : RTab w) (hc : Sm c) :
    Calls Tryd.prog 39 #[.int .i64 c, .agg #[.int .i64 y, .int .i64 m, .int .i64 d]] w fun e w' => e = .returned (.tuple #[.int .i64 (n - esN c y), .int .i64 0]) ∧ Kept w w' := by
  have h1 := EOffset_any c y m d w hT hc
  have e1 : nmE c y m d = 0 := by unfold nmE; rw [if_pos h]; exact hz
  have e2 : offV c y m d = n - esN c y := by unfold offV; rw [if_pos e1, hn]
  rwa [e1, e2] at h1
theorem tmod7 (n : Int) : n.tmod 7 = 0 ↔ n % 7 = 0 := by
  rw [← Int.dvd_iff_emod_eq_zero, Int.dvd_iff_tmod_eq_zero]
set_option maxHeartbeats 2000000 in
theorem EasterOffsets_walk (c a m d : Int) (bc : 0 ≤ c ∧ c ≤ 255) (_b1 : -9223372036854775808 ≤ a ∧ a ≤ 9223372036854775807) (_b2 : -9223372036854775808 ≤ m ∧ m ≤ 9223372036854775807) (_b3 : -9223372036854775808 ≤ d ∧ d ≤ 9223372036854775807) (w : World) (hT : RTab w) :
    Calls Tryd.prog 10 #[.int .u8 c, .agg #[.int .i64 a, .int .i64 m, .int .i64 d]] w fun e w' => e = .returned (.bool true) ∧ Kept w w' := by
  obtain ⟨bc1, bc2⟩ := bc
  have KT := Lib.hid (fun w' (k : Kept w w') => hT.kept k)
  have KN := Lib.hid (fun w => rPFails_any (1 + c % 2) a m d w)
  have hr := nm_range (1 + c % 2) a m d
  clear hT
  by_cases hz : nmE (1 + c % 2) a m d = 0
  · rw [hz] at KN
    obtain ⟨hf, e0, hc0⟩ := nm_fit _ _ _ _ hz
    have hsm := fit_sm _ _ hf
    have KO := Lib.hid (fun w hT => off_at (1 + c % 2) a m d _ e0 hc0 rfl w hT hsm)
    have KE := Lib.hid (fun w hT => EDate_any (1 + c % 2) a w hT hsm)
    obtain ⟨a1, a2, a3⟩ := ed_fit (1 + c % 2) a e0
    rw [a1, a2, a3, e0] at KE
    have hi := easI_bounds (1 + c % 2) a
    obtain ⟨d1, d2⟩ := day_c (1 + c % 2) a (easI (1 + c % 2) a) hf (by omega) (by omega)
    rw [← esN_val] at d2
    have KX : Hid (∀ w, RTab w → Calls Tryd.prog 39 #[.int .i64 (1 + c % 2), .agg #[.int .i64 a, .int .i64 (dmo (easI (1 + c % 2) a)), .int .i64 (dda (easI (1 + c % 2) a))]] w fun e w' => e = .returned (.tuple #[.int .i64 0, .int .i64 0]) ∧ Kept w w') := (show ∀ _, _ → _ from fun w hT => by
      have := off_at (1 + c % 2) a _ _ _ e0 d1 d2 w hT hsm
      rwa [Int.sub_self] at this)
    have K5 := Lib.hid (fun w => refToDay_all (1 + c % 2) a m d w)
    rw [hc0] at K5
    have KW := Lib.hid (fun n w a b => rWOf_any n w a b)
    have hcal := (fit_cal _ _ hf).1
    have hnb := cN_bounds (1 + c % 2) a m d
    have hb := esN_bounds (1 + c % 2) a hf
    have hs := esN_sunday (1 + c % 2) a
    obtain ⟨y1, y2, y3, h, hfd⟩ := fdC_some (1 + c % 2) (cN (1 + c % 2) a m d + 1)
    have KF := Lib.hid (fun w => refFromDay_all (1 + c % 2) (cN (1 + c % 2) a m d + 1) _ _ _ _ w hfd)
    have hcase : (h = 1 ∧ y1 = 0) ∨ (h = 0 ∧ (y1 ≠ a ∨ y1 = a ∧ ∀ w, RTab w → Calls Tryd.prog 39 #[.int .i64 (1 + c % 2), .agg #[.int .i64 a, .int .i64 y2, .int .i64 y3]] w fun e w' => e = .returned (.tuple #[.int .i64 (cN (1 + c % 2) a m d + 1 - esN (1 + c % 2) a), .int .i64 0]) ∧ Kept w w')) := by
      rcases hfd with ⟨_, ⟨_, e1, _, _, e2⟩ | ⟨ho, hn, e2⟩⟩ | ⟨hx, _⟩
      · exact .inl ⟨e2, e1⟩
      · refine .inr ⟨e2, ?_⟩
        by_cases hy : y1 = a
        · refine .inr ⟨hy, fun w hT => ?_⟩
          subst hy
          rcases c_cases (1 + c % 2) y1 y2 y3 with ⟨_, _, q1, q2⟩ | ⟨_, _, _, q⟩
          · exact off_at (1 + c % 2) y1 y2 y3 _ e0 q2 (q1.trans hn) w hT hsm
          · exact absurd ⟨hcal, ho⟩ q
        · exact .inl hy
      · exact absurd hcal hx
    clear hfd d1 d2 a1 a2 a3 e0 hc0 hf hz hcal hi
    generalize dmo (easI (1 + c % 2) a) = x2 at *
    generalize dda (easI (1 + c % 2) a) = x3 at *
    generalize esN (1 + c % 2) a = p at *
    generalize cN (1 + c % 2) a m d = D at *
    have h7 : (D - p).tmod 7 = 0 ↔ D % 7 = 0 := by rw [tmod7]; omega
    have hk : decide ((D - p).tmod 7 = 0) = decide (D % 7 = 0) := decide_eq_decide.mpr h7
    have hQ : ((D % 7 == 0) = true ∧ ((D - p).tmod 7 == 0) = true) ∨ ((D % 7 == 0) = false ∧ ((D - p).tmod 7 == 0) = false) := by
      by_cases hD : D % 7 = 0
      · exact .inl ⟨by simp [hD], by simp [h7.2 hD]⟩
      · have hE : ¬ (D - p).tmod 7 = 0 := fun g => hD (h7.1 g)
        exact .inr ⟨beq_false_of_ne hD, beq_false_of_ne hE⟩
    clear h7 hk
    rcases hcase with ⟨rfl, rfl⟩ | ⟨rfl, hya | ⟨rfl, K6⟩⟩
    · rcases hQ with ⟨q1, q2⟩ | ⟨q1, q2⟩
      all_goals
        go_enter Tryd.func10, Tryd.ntmps10
        go_wp2_with fail
        (go_at_call 34; refine (Eas_awake _ (KT.out _ (by repeat (first | with_reducible exact Kept.refl _ | with_reducible assumption | with_reducible refine Kept.drew ?_ | with_reducible refine Kept.drewN ?_ _ | with_reducible refine Kept.alloc ?_ _ | (with_reducible refine Kept.setCell ?_ (by first | exact Nat.le_refl _ | omega | (simp; done) | (simp; omega)) _) | (with_reducible refine Kept.trans ?_ (by with_reducible assumption)))))).mono ?_; rintro e w1 ⟨rfl, hk1⟩)
        have hB1_1 := hk1
        obtain ⟨hc1_1, hf1_1⟩ := kept_cells hB1_1
        have hz1_0_1 : w.heap.size < w1.heap.size := by have := hB1_1.size; simp at this; omega
        go_wp2_with fail
        (go_at_call 24; refine (KN.out _).mono ?_; rintro e w2 ⟨rfl, hk2⟩)
        have hB1_2 := Kept.trans hB1_1 hk2
        obtain ⟨hc1_2, hf1_2⟩ := kept_cells hB1_2
        have hz1_0_2 : w.heap.size < w2.heap.size := by have := hB1_2.size; simp at this; omega
        go_wp2_with fail
        (go_at_call 39; refine (KO.out _ (KT.out _ (by repeat (first | with_reducible exact Kept.refl _ | with_reducible assumption | with_reducible refine Kept.drew ?_ | with_reducible refine Kept.drewN ?_ _ | with_reducible refine Kept.alloc ?_ _ | (with_reducible refine Kept.setCell ?_ (by first | exact Nat.le_refl _ | omega | (simp; done) | (simp; omega)) _) | (with_reducible refine Kept.trans ?_ (by with_reducible assumption)))))).mono ?_; rintro e w3 ⟨rfl, hk3⟩)
        have hB1_3 := Kept.trans hB1_2 hk3
        obtain ⟨hc1_3, hf1_3⟩ := kept_cells hB1_3
        have hz1_0_3 : w.heap.size < w3.heap.size := by have := hB1_3.size; simp at this; omega
        go_wp2_with fail
        (go_at_call 36; refine (KE.out _ (KT.out _ (by repeat (first | with_reducible exact Kept.refl _ | with_reducible assumption | with_reducible refine Kept.drew ?_ | with_reducible refine Kept.drewN ?_ _ | with_reducible refine Kept.alloc ?_ _ | (with_reducible refine Kept.setCell ?_ (by first | exact Nat.le_refl _ | omega | (simp; done) | (simp; omega)) _) | (with_reducible refine Kept.trans ?_ (by with_reducible assumption)))))).mono ?_; rintro e w4 ⟨rfl, hk4⟩)
        have hB1_4 := Kept.trans hB1_3 hk4
        obtain ⟨hc1_4, hf1_4⟩ := kept_cells hB1_4
        have hz1_0_4 : w.heap.size < w4.heap.size := by have := hB1_4.size; simp at this; omega
        go_wp2_with fail
        (go_at_call 39; refine (KX.out _ (KT.out _ (by repeat (first | with_reducible exact Kept.refl _ | with_reducible assumption | with_reducible refine Kept.drew ?_ | with_reducible refine Kept.drewN ?_ _ | with_reducible refine Kept.alloc ?_ _ | (with_reducible refine Kept.setCell ?_ (by first | exact Nat.le_refl _ | omega | (simp; done) | (simp; omega)) _) | (with_reducible refine Kept.trans ?_ (by with_reducible assumption)))))).mono ?_; rintro e w5 ⟨rfl, hk5⟩)
        have hB1_5 := Kept.trans (Kept.alloc hB1_4 _) hk5
        have hB5_5 := hk5
        obtain ⟨hc1_5, hf1_5⟩ := kept_cells hB1_5
        have hz1_0_5 : w.heap.size < w5.heap.size := by have := hB1_5.size; simp at this; omega
        obtain ⟨hc5_5, hf5_5⟩ := kept_cells hB5_5
        have hz5_0_5 : w4.heap.size < w5.heap.size := by have := hB5_5.size; simp at this; omega
        go_wp2_with fail
        (go_at_call 26; refine (K5.out _).mono ?_; rintro e w6 ⟨rfl, hk6⟩)
        have hB1_6 := Kept.trans hB1_5 hk6
        have hB5_6 := Kept.trans hB5_5 hk6
        obtain ⟨hc1_6, hf1_6⟩ := kept_cells hB1_6
        have hz1_0_6 : w.heap.size < w6.heap.size := by have := hB1_6.size; simp at this; omega
        obtain ⟨hc5_6, hf5_6⟩ := kept_cells hB5_6
        have hz5_0_6 : w4.heap.size < w6.heap.size := by have := hB5_6.size; simp at this; omega
        go_wp2_with fail
        (go_at_call 28; refine (KF.out _).mono ?_; rintro e w7 ⟨rfl, hk7⟩)
        have hB1_7 := Kept.trans hB1_6 hk7
        have hB5_7 := Kept.trans hB5_6 hk7
        obtain ⟨hc1_7, hf1_7⟩ := kept_cells hB1_7
        have hz1_0_7 : w.heap.size < w7.heap.size := by have := hB1_7.size; simp at this; omega
        obtain ⟨hc5_7, hf5_7⟩ := kept_cells hB5_7
        have hz5_0_7 : w4.heap.size < w7.heap.size := by have := hB5_7.size; simp at this; omega
        go_wp2_with (go_at_call 40; (with_reducible refine (KW.out _ _ (by omega) (by omega)).mono ?_); rintro e v1 ⟨rfl, rfl⟩)
        go_ret
        exact ⟨rfl, (by repeat (first | with_reducible exact Kept.refl _ | with_reducible assumption | with_reducible refine Kept.drew ?_ | with_reducible refine Kept.drewN ?_ _ | with_reducible refine Kept.alloc ?_ _ | (with_reducible refine Kept.setCell ?_ (by first | exact Nat.le_refl _ | omega | (simp; done) | (simp; omega)) _) | (with_reducible refine Kept.trans ?_ (by with_reducible assumption))))⟩
    · rcases hQ with ⟨q1, q2⟩ | ⟨q1, q2⟩
      all_goals
        go_enter Tryd.func10, Tryd.ntmps10
        go_wp2_with fail
        (go_at_call 34; refine (Eas_awake _ (KT.out _ (by repeat (first | with_reducible exact Kept.refl _ | with_reducible assumption | with_reducible refine Kept.drew ?_ | with_reducible refine Kept.drewN ?_ _ | with_reducible refine Kept.alloc ?_ _ | (with_reducible refine Kept.setCell ?_ (by first | exact Nat.le_refl _ | omega | (simp; done) | (simp; omega)) _) | (with_reducible refine Kept.trans ?_ (by with_reducible assumption)))))).mono ?_; rintro e w1 ⟨rfl, hk1⟩)
        have hB1_1 := hk1
        obtain ⟨hc1_1, hf1_1⟩ := kept_cells hB1_1
        have hz1_0_1 : w.heap.size < w1.heap.size := by have := hB1_1.size; simp at this; omega
        go_wp2_with fail
        (go_at_call 24; refine (KN.out _).mono ?_; rintro e w2 ⟨rfl, hk2⟩)
        have hB1_2 := Kept.trans hB1_1 hk2
        obtain ⟨hc1_2, hf1_2⟩ := kept_cells hB1_2
        have hz1_0_2 : w.heap.size < w2.heap.size := by have := hB1_2.size; simp at this; omega
        go_wp2_with fail
        (go_at_call 39; refine (KO.out _ (KT.out _ (by repeat (first | with_reducible exact Kept.refl _ | with_reducible assumption | with_reducible refine Kept.drew ?_ | with_reducible refine Kept.drewN ?_ _ | with_reducible refine Kept.alloc ?_ _ | (with_reducible refine Kept.setCell ?_ (by first | exact Nat.le_refl _ | omega | (simp; done) | (simp; omega)) _) | (with_reducible refine Kept.trans ?_ (by with_reducible assumption)))))).mono ?_; rintro e w3 ⟨rfl, hk3⟩)
        have hB1_3 := Kept.trans hB1_2 hk3
        obtain ⟨hc1_3, hf1_3⟩ := kept_cells hB1_3
        have hz1_0_3 : w.heap.size < w3.heap.size := by have := hB1_3.size; simp at this; omega
        go_wp2_with fail
        (go_at_call 36; refine (KE.out _ (KT.out _ (by repeat (first | with_reducible exact Kept.refl _ | with_reducible assumption | with_reducible refine Kept.drew ?_ | with_reducible refine Kept.drewN ?_ _ | with_reducible refine Kept.alloc ?_ _ | (with_reducible refine Kept.setCell ?_ (by first | exact Nat.le_refl _ | omega | (simp; done) | (simp; omega)) _) | (with_reducible refine Kept.trans ?_ (by with_reducible assumption)))))).mono ?_; rintro e w4 ⟨rfl, hk4⟩)
        have hB1_4 := Kept.trans hB1_3 hk4
        obtain ⟨hc1_4, hf1_4⟩ := kept_cells hB1_4
        have hz1_0_4 : w.heap.size < w4.heap.size := by have := hB1_4.size; simp at this; omega
        go_wp2_with fail
        (go_at_call 39; refine (KX.out _ (KT.out _ (by repeat (first | with_reducible exact Kept.refl _ | with_reducible assumption | with_reducible refine Kept.drew ?_ | with_reducible refine Kept.drewN ?_ _ | with_reducible refine Kept.alloc ?_ _ | (with_reducible refine Kept.setCell ?_ (by first | exact Nat.le_refl _ | omega | (simp; done) | (simp; omega)) _) | (with_reducible refine Kept.trans ?_ (by with_reducible assumption)))))).mono ?_; rintro e w5 ⟨rfl, hk5⟩)
        have hB1_5 := Kept.trans (Kept.alloc hB1_4 _) hk5
        have hB5_5 := hk5
        obtain ⟨hc1_5, hf1_5⟩ := kept_cells hB1_5
        have hz1_0_5 : w.heap.size < w5.heap.size := by have := hB1_5.size; simp at this; omega
        obtain ⟨hc5_5, hf5_5⟩ := kept_cells hB5_5
        have hz5_0_5 : w4.heap.size < w5.heap.size := by have := hB5_5.size; simp at this; omega
        go_wp2_with fail
        (go_at_call 26; refine (K5.out _).mono ?_; rintro e w6 ⟨rfl, hk6⟩)
        have hB1_6 := Kept.trans hB1_5 hk6
        have hB5_6 := Kept.trans hB5_5 hk6
        obtain ⟨hc1_6, hf1_6⟩ := kept_cells hB1_6
        have hz1_0_6 : w.heap.size < w6.heap.size := by have := hB1_6.size; simp at this; omega
        obtain ⟨hc5_6, hf5_6⟩ := kept_cells hB5_6
        have hz5_0_6 : w4.heap.size < w6.heap.size := by have := hB5_6.size; simp at this; omega
        go_wp2_with fail
        (go_at_call 28; refine (KF.out _).mono ?_; rintro e w7 ⟨rfl, hk7⟩)
        have hB1_7 := Kept.trans hB1_6 hk7
        have hB5_7 := Kept.trans hB5_6 hk7
        obtain ⟨hc1_7, hf1_7⟩ := kept_cells hB1_7
        have hz1_0_7 : w.heap.size < w7.heap.size := by have := hB1_7.size; simp at this; omega
        obtain ⟨hc5_7, hf5_7⟩ := kept_cells hB5_7
        have hz5_0_7 : w4.heap.size < w7.heap.size := by have := hB5_7.size; simp at this; omega
        go_wp2_with (go_at_call 40; (with_reducible refine (KW.out _ _ (by omega) (by omega)).mono ?_); rintro e v1 ⟨rfl, rfl⟩)
        go_ret
        exact ⟨rfl, (by repeat (first | with_reducible exact Kept.refl _ | with_reducible assumption | with_reducible refine Kept.drew ?_ | with_reducible refine Kept.drewN ?_ _ | with_reducible refine Kept.alloc ?_ _ | (with_reducible refine Kept.setCell ?_ (by first | exact Nat.le_refl _ | omega | (simp; done) | (simp; omega)) _) | (with_reducible refine Kept.trans ?_ (by with_reducible assumption))))⟩
    · rcases hQ with ⟨q1, q2⟩ | ⟨q1, q2⟩
      all_goals
        go_enter Tryd.func10, Tryd.ntmps10
        go_wp2_with fail
        (go_at_call 34; refine (Eas_awake _ (KT.out _ (by repeat (first | with_reducible exact Kept.refl _ | with_reducible assumption | with_reducible refine Kept.drew ?_ | with_reducible refine Kept.drewN ?_ _ | with_reducible refine Kept.alloc ?_ _ | (with_reducible refine Kept.setCell ?_ (by first | exact Nat.le_refl _ | omega | (simp; done) | (simp; omega)) _) | (with_reducible refine Kept.trans ?_ (by with_reducible assumption)))))).mono ?_; rintro e w1 ⟨rfl, hk1⟩)
        have hB1_1 := hk1
        obtain ⟨hc1_1, hf1_1⟩ := kept_cells hB1_1
        have hz1_0_1 : w.heap.size < w1.heap.size := by have := hB1_1.size; simp at this; omega
        go_wp2_with fail
        (go_at_call 24; refine (KN.out _).mono ?_; rintro e w2 ⟨rfl, hk2⟩)
        have hB1_2 := Kept.trans hB1_1 hk2
        obtain ⟨hc1_2, hf1_2⟩ := kept_cells hB1_2
        have hz1_0_2 : w.heap.size < w2.heap.size := by have := hB1_2.size; simp at this; omega
        go_wp2_with fail
        (go_at_call 39; refine (KO.out _ (KT.out _ (by repeat (first | with_reducible exact Kept.refl _ | with_reducible assumption | with_reducible refine Kept.drew ?_ | with_reducible refine Kept.drewN ?_ _ | with_reducible refine Kept.alloc ?_ _ | (with_reducible refine Kept.setCell ?_ (by first | exact Nat.le_refl _ | omega | (simp; done) | (simp; omega)) _) | (with_reducible refine Kept.trans ?_ (by with_reducible assumption)))))).mono ?_; rintro e w3 ⟨rfl, hk3⟩)
        have hB1_3 := Kept.trans hB1_2 hk3
        obtain ⟨hc1_3, hf1_3⟩ := kept_cells hB1_3
        have hz1_0_3 : w.heap.size < w3.heap.size := by have := hB1_3.size; simp at this; omega
        go_wp2_with fail
        (go_at_call 36; refine (KE.out _ (KT.out _ (by repeat (first | with_reducible exact Kept.refl _ | with_reducible assumption | with_reducible refine Kept.drew ?_ | with_reducible refine Kept.drewN ?_ _ | with_reducible refine Kept.alloc ?_ _ | (with_reducible refine Kept.setCell ?_ (by first | exact Nat.le_refl _ | omega | (simp; done) | (simp; omega)) _) | (with_reducible refine Kept.trans ?_ (by with_reducible assumption)))))).mono ?_; rintro e w4 ⟨rfl, hk4⟩)
        have hB1_4 := Kept.trans hB1_3 hk4
        obtain ⟨hc1_4, hf1_4⟩ := kept_cells hB1_4
        have hz1_0_4 : w.heap.size < w4.heap.size := by have := hB1_4.size; simp at this; omega
        go_wp2_with fail
        (go_at_call 39; refine (KX.out _ (KT.out _ (by repeat (first | with_reducible exact Kept.refl _ | with_reducible assumption | with_reducible refine Kept.drew ?_ | with_reducible refine Kept.drewN ?_ _ | with_reducible refine Kept.alloc ?_ _ | (with_reducible refine Kept.setCell ?_ (by first | exact Nat.le_refl _ | omega | (simp; done) | (simp; omega)) _) | (with_reducible refine Kept.trans ?_ (by with_reducible assumption)))))).mono ?_; rintro e w5 ⟨rfl, hk5⟩)
        have hB1_5 := Kept.trans (Kept.alloc hB1_4 _) hk5
        have hB5_5 := hk5
        obtain ⟨hc1_5, hf1_5⟩ := kept_cells hB1_5
        have hz1_0_5 : w.heap.size < w5.heap.size := by have := hB1_5.size; simp at this; omega
        obtain ⟨hc5_5, hf5_5⟩ := kept_cells hB5_5
        have hz5_0_5 : w4.heap.size < w5.heap.size := by have := hB5_5.size; simp at this; omega
        go_wp2_with fail
        (go_at_call 26; refine (K5.out _).mono ?_; rintro e w6 ⟨rfl, hk6⟩)
        have hB1_6 := Kept.trans hB1_5 hk6
        have hB5_6 := Kept.trans hB5_5 hk6
        obtain ⟨hc1_6, hf1_6⟩ := kept_cells hB1_6
        have hz1_0_6 : w.heap.size < w6.heap.size := by have := hB1_6.size; simp at this; omega
        obtain ⟨hc5_6, hf5_6⟩ := kept_cells hB5_6
        have hz5_0_6 : w4.heap.size < w6.heap.size := by have := hB5_6.size; simp at this; omega
        go_wp2_with fail
        (go_at_call 28; refine (KF.out _).mono ?_; rintro e w7 ⟨rfl, hk7⟩)
        have hB1_7 := Kept.trans hB1_6 hk7
        have hB5_7 := Kept.trans hB5_6 hk7
        obtain ⟨hc1_7, hf1_7⟩ := kept_cells hB1_7
        have hz1_0_7 : w.heap.size < w7.heap.size := by have := hB1_7.size; simp at this; omega
        obtain ⟨hc5_7, hf5_7⟩ := kept_cells hB5_7
        have hz5_0_7 : w4.heap.size < w7.heap.size := by have := hB5_7.size; simp at this; omega
        go_wp2_with (go_at_call 40; (with_reducible refine (KW.out _ _ (by omega) (by omega)).mono ?_); rintro e v1 ⟨rfl, rfl⟩)
        go_at_call 39
        (refine (K6 _ (KT.out _ (by repeat (first | with_reducible exact Kept.refl _ | with_reducible assumption | with_reducible refine Kept.drew ?_ | with_reducible refine Kept.drewN ?_ _ | with_reducible refine Kept.alloc ?_ _ | (with_reducible refine Kept.setCell ?_ (by first | exact Nat.le_refl _ | omega | (simp; done) | (simp; omega)) _) | (with_reducible refine Kept.trans ?_ (by with_reducible assumption)))))).mono ?_)
        rintro e v2 ⟨rfl, hv2⟩
        go_wp2
        go_ret
        exact ⟨by first | rfl | (show Ending.returned (Value.bool _) = Ending.returned (Value.bool _); congr 2; simp; omega), (by repeat (first | with_reducible exact Kept.refl _ | with_reducible assumption | with_reducible refine Kept.drew ?_ | with_reducible refine Kept.drewN ?_ _ | with_reducible refine Kept.alloc ?_ _ | (with_reducible refine Kept.setCell ?_ (by first | exact Nat.le_refl _ | omega | (simp; done) | (simp; omega)) _) | (with_reducible refine Kept.trans ?_ (by with_reducible assumption))))⟩
  · have KN2 := KN
    generalize nmE (1 + c % 2) a m d = x at *
    go_enter Tryd.func10, Tryd.ntmps10
    go_wp2_with fail
    (go_at_call 34; refine (Eas_awake _ (KT.out _ (by repeat (first | with_reducible exact Kept.refl _ | with_reducible assumption | with_reducible refine Kept.drew ?_ | with_reducible refine Kept.drewN ?_ _ | with_reducible refine Kept.alloc ?_ _ | (with_reducible refine Kept.setCell ?_ (by first | exact Nat.le_refl _ | omega | (simp; done) | (simp; omega)) _) | (with_reducible refine Kept.trans ?_ (by with_reducible assumption)))))).mono ?_; rintro e w1 ⟨rfl, hk1⟩)
    have hB1_1 := hk1
    obtain ⟨hc1_1, hf1_1⟩ := kept_cells hB1_1
    have hz1_0_1 : w.heap.size < w1.heap.size := by have := hB1_1.size; simp at this; omega
    go_wp2_with fail
    (go_at_call 24; refine (KN.out _).mono ?_; rintro e w2 ⟨rfl, hk2⟩)
    have hB1_2 := Kept.trans hB1_1 hk2
    obtain ⟨hc1_2, hf1_2⟩ := kept_cells hB1_2
    have hz1_0_2 : w.heap.size < w2.heap.size := by have := hB1_2.size; simp at this; omega
    go_wp2_with fail
    (go_at_call 34; refine (Eas_awake _ (KT.out _ (by repeat (first | with_reducible exact Kept.refl _ | with_reducible assumption | with_reducible refine Kept.drew ?_ | with_reducible refine Kept.drewN ?_ _ | with_reducible refine Kept.alloc ?_ _ | (with_reducible refine Kept.setCell ?_ (by first | exact Nat.le_refl _ | omega | (simp; done) | (simp; omega)) _) | (with_reducible refine Kept.trans ?_ (by with_reducible assumption)))))).mono ?_; rintro e w3 ⟨rfl, hk3⟩)
    have hB1_3 := Kept.trans hB1_2 hk3
    obtain ⟨hc1_3, hf1_3⟩ := kept_cells hB1_3
    have hz1_0_3 : w.heap.size < w3.heap.size := by have := hB1_3.size; simp at this; omega
    go_wp2
    go_ret
    exact ⟨rfl, (by repeat (first | with_reducible exact Kept.refl _ | with_reducible assumption | with_reducible refine Kept.drew ?_ | with_reducible refine Kept.drewN ?_ _ | with_reducible refine Kept.alloc ?_ _ | (with_reducible refine Kept.setCell ?_ (by first | exact Nat.le_refl _ | omega | (simp; done) | (simp; omega)) _) | (with_reducible refine Kept.trans ?_ (by with_reducible assumption))))⟩

set_option maxRecDepth 100000 in
theorem EasterOffsets_contract (H : Type) (enc : TypeId × Value → H) (W : World) (base : Nat) (args : Array Value) (ds gs : List (DataW H)) (before : List MemPlace)
    (hval : ∀ (j : Nat) t v, Tryd.f10.params[j]? = some t → args[j]? = some v → Value.okWide Tryd.prog W .any base t v)
    (hW : DataW.Whole enc Tryd.prog Tryd.f10.params.toList Rows.easterOffsetsSpec.vars false W args.toList ds gs before) (hL : laidMetH Tryd.prog Rows.easterOffsetsRow.laid W) :
    Calls Tryd.prog 10 args W fun e W' => ∃ v, e = .returned v ∧ Rows.easterOffsetsSpec.post enc Tryd.prog Tryd.f10 false true false false W args v W' := by
  have hW' := hW
  obtain ⟨p, q, hA0, hV, rfl, hfz, hnd⟩ := hW
  have hA : DataW.TrodAll enc Tryd.prog W 0 (fun _ => true) true Tryd.f10.params.toList args.toList ds p := hA0
  rw [Tryd.params10] at hA hval
  obtain ⟨v0, vs0, d0, ds0, p0, q0, hargs, rfl, rfl, h0, r0⟩ := trodAll_cons hA
  obtain ⟨v1, vs1, d1, ds1, p1, q1, rfl, rfl, rfl, h1, r1⟩ := trodAll_cons r0
  obtain ⟨rfl, rfl, rfl⟩ := trodAll_nil r1
  obtain rfl : args = #[v0, v1] := by cases args; simp_all
  obtain ⟨rfl, rfl⟩ := trodVars_none hV
  obtain ⟨a0, rfl, rfl, rfl, w0⟩ := open_int Tryd.underlying5 (hval 0 5 v0 rfl rfl) h0
  obtain ⟨c10, c11, c12, y10, y11, y12, m1, rfl, rfl, rfl, hy10, hy11, hy12⟩ := open_agg3 Tryd.underlying23 (by kernel_rfl) cells_Date (hval 1 23 v1 rfl rfl) h1
  obtain ⟨a10, e10, rfl, w10⟩ := DataW.trod_int Tryd.underlying3 hy10
  obtain ⟨a11, e11, rfl, w11⟩ := DataW.trod_int Tryd.underlying3 hy11
  obtain ⟨a12, e12, rfl, w12⟩ := DataW.trod_int Tryd.underlying3 hy12
  simp at e10 e11 e12
  subst e10 e11 e12
  clear hA0
  simp only [List.append_nil] at hW'
  refine (EasterOffsets_walk a0 a10 a11 a12 (wf_bounds8 w0) (wf_bounds w10) (wf_bounds w11) (wf_bounds w12) W (tab_of hL)).mono fun e W' ⟨he, hg⟩ => ?_
  subst he
  exact ⟨_, rfl, post_of_kept (pa := []) (pv := []) hW' (fun _ _ _ => (trodAll_cons_mk (shut_bool Tryd.underlying4 _) trodAll_mk0)) (fun sp _ => (trodAll_cons_mk (shut_int Tryd.underlying5 w0) (trodAll_cons_mk (shut_agg3 (y0 := (.lit (.int .i64 a10), [])) (y1 := (.lit (.int .i64 a11), [])) (y2 := (.lit (.int .i64 a12), [])) Tryd.underlying23 (by kernel_rfl) cells_Date ⟨1, by simp [DataW.trod, Tryd.underlying3, w10]⟩ ⟨1, by simp [DataW.trod, Tryd.underlying3, w11]⟩ ⟨1, by simp [DataW.trod, Tryd.underlying3, w12]⟩) trodAll_mk0))) (fun _ _ => rfl) rfl
    hg (ok_one (by kernel_rfl) rfl (okWide_bool_mk Tryd.underlying4 _))⟩
theorem EasterOffsets_laid (os : Os) : laidMet Tryd.prog Rows.easterOffsetsRow.laid ((laidWorld os).forCall (fun _ _ => 0) ⟨#[], #[.int .u8 0, .agg #[.int .i64 0, .int .i64 0, .int .i64 0]], []⟩).memory :=
  laidMet_of_run' 8 (by kernel_rfl) (by kernel_rfl)
theorem EasterOffsets_reads (os : Os) {H : Type} (enc : TypeId × Value → H) : ∃ places, DataW.whole enc Tryd.prog ((laidWorld os).forCall (fun _ _ => 0) ⟨#[], #[.int .u8 0, .agg #[.int .i64 0, .int .i64 0, .int .i64 0]], []⟩).memory Tryd.f10.params.toList Rows.easterOffsetsSpec.vars false (#[.int .u8 0, .agg #[.int .i64 0, .int .i64 0, .int .i64 0]] : Array Value).toList 8 = some ([.lit (.int .u8 0), .agg [.lit (.int .i64 0), .lit (.int .i64 0), .lit (.int .i64 0)]], [], places) :=
  ⟨[], by kernel_rfl⟩
set_option maxRecDepth 100000 in
theorem EasterOffsets_lifted (os : Os) (started : os.Started) (H : Type) (enc : TypeId × Value → H) (F : Stop.Interp) :
    ReturnsInHanded {} Tryd.checked os 10 .any ((OpenSpec.ofChange Rows.easterOffsetsSpec).preRow enc Tryd.prog Tryd.f10 Rows.easterOffsetsRow.domain false Rows.easterOffsetsRow.laid) (((OpenSpec.ofChange Rows.easterOffsetsSpec).at F).post enc Tryd.prog Tryd.f10 false true false false) := by
  obtain ⟨places, hx⟩ := EasterOffsets_reads os enc
  refine returnsInHanded_of_row (C := Tryd.checked) (s := OpenSpec.ofChange Rows.easterOffsetsSpec) own_knob started (by kernel_rfl) Tryd.func10
    (witness_row_at (enc := enc) (C := Tryd.checked) false (laidWorld os) #[.int .u8 0, .agg #[.int .i64 0, .int .i64 0, .int .i64 0]] rfl (by kernel_rfl) (by kernel_rfl) (by kernel_rfl)
      (OpenSpec.preRow_of_cond 8 hx (by kernel_rfl) (fun k hk => by cases hk) (by kernel_rfl) (EasterOffsets_laid os))) ?_
  intro W base args ds gs before hval hW _ _ _ hL _ _
  exact EasterOffsets_contract H enc W base args ds gs before hval hW hL
theorem EasterOffsets_closed : joinedFacts Tryd.pinned.checked.prog 10 Tryd.f10 (OpenSpec.ofChange Rows.easterOffsetsSpec).bare Rows.easterOffsetsRow = true := by
  unfold joinedFacts
  simp only [Bool.and_eq_true]
  repeat' apply And.intro
  all_goals (first | with_reducible exact head_enter | (rw [head_make]; rfl) | (rw [head_final]; rfl) | (as_aux_lemma => kernel_rfl))
theorem EasterOffsets_said : Rows.EasterOffsetsSaid :=
  OpenClaim.holds_of_cond 10 Tryd.f10 rfl rfl rfl rfl rfl rfl rfl ⟨rfl, rfl, rfl, rfl, rfl⟩ rfl rfl rfl rfl rfl (by kernel_rfl) Tryd.func10 EasterOffsets_closed
    (of_decide_eq_true (by kernel_rfl)) (by unfold Func.isWrapper; first | (rw [if_pos (by decide +kernel)]; kernel_rfl) | (rw [if_neg (by decide +kernel)]; exact ⟨rfl, rfl⟩))
    (fun os started H enc _ F => by rw [OpenClaim.pre_eq_preRow]; exact EasterOffsets_lifted os started H enc F)
theorem EasterOffsets_plain (f : FuncId) (fn : Func) (hf : Tryd.pinned.checked.prog.funcNamed "computus/computuslaw10.EasterOffsets" = some f) (hfn : Tryd.pinned.checked.prog.funcs[f]? = some fn) :
    false = Tryd.pinned.checked.prog.looks [] ∧ ∀ (j : Nat) t, fn.params[j]? = some t → Tryd.pinned.checked.prog.wantsStandIn t = false := by
  obtain rfl : f = 10 := Option.some.inj ((show Tryd.prog.funcNamed "computus/computuslaw10.EasterOffsets" = some 10 by kernel_rfl).symm.trans hf) |>.symm
  obtain rfl : fn = Tryd.f10 := (Option.some.inj (Tryd.func10.symm.trans hfn)).symm
  refine ⟨by kernel_rfl, fun j t ht => ?_⟩
  rw [Tryd.params10] at ht
  have hm : t ∈ [5, 23] := by simpa using Array.mem_of_getElem? ht
  have hall : ([5, 23].all fun u => !Tryd.prog.wantsStandIn u) = true := by kernel_rfl
  exact (show Tryd.prog.wantsStandIn t = false by simpa using List.all_eq_true.1 hall t hm)
theorem EasterOffsets_proved : Rows.EasterOffsetsCardSaid :=
  Claim7.holds_tied_plain_at .later [] _ _ _ _ EasterOffsets_said (fun _ h => by cases h) (by kernel_rfl) (fun _ h => by cases h) easterOffsets_row_tie rfl ⟨rfl, rfl⟩ (mainIs_of io_list (by kernel_rfl)) rfl EasterOffsets_plain (by kernel_rfl)
#print axioms EasterOffsets_proved
end Go.Proofs.YtliomdnglhjfaaaDoor

/- Contracts: reference 06; the fixed examples of the laws of layer 6. -/
import Derived.Test.YtcfgiboknkkheaaDoorGold
set_option linter.unusedSimpArgs false
set_option linter.unusedVariables false
set_option linter.unusedSectionVars false
namespace Go.Proofs.YtcfgiboknkkheaaDoor
open Go.ChangeShapes Go.WideShapes Go.ChangeAt Go.RowKit
set_option maxHeartbeats 800000

theorem rGolden_ok (y : Int) (w : World) (h : 1 ≤ y) (h' : y ≤ 1000000000) :
    Calls Tryd.prog 37 #[.int .i64 y] w fun e w' => e = .returned (.int .i64 (glN y)) ∧ w = w' := by
  have HE := Lib.hid (show glN y = y - 19 * (y / 19) + 1 from by unfold glN; omega)
  go_enter Tryd.func37, Tryd.ntmps37
  go_wp2
  go_ret
  exact ⟨by rw [HE.out]; rfl, rfl⟩
theorem rCentury_ok (y : Int) (w : World) (h : 1 ≤ y) (h' : y ≤ 1000000000) :
    Calls Tryd.prog 38 #[.int .i64 y] w fun e w' => e = .returned (.int .i64 (ceN y)) ∧ w = w' := by
  go_enter Tryd.func38, Tryd.ntmps38
  go_wp2
  go_ret
  exact ⟨rfl, rfl⟩
theorem rSolar_ok (y : Int) (w : World) (h : 1 ≤ y) (h' : y ≤ 1000000000) :
    Calls Tryd.prog 39 #[.int .i64 y] w fun e w' => e = .returned (.int .i64 (soN y)) ∧ w = w' := by
  go_enter Tryd.func39, Tryd.ntmps39
  go_wp2
  go_ret
  exact ⟨rfl, rfl⟩
theorem rLunar_ok (y : Int) (w : World) (h : 1 ≤ y) (h' : y ≤ 1000000000) :
    Calls Tryd.prog 40 #[.int .i64 y] w fun e w' => e = .returned (.int .i64 (luN y)) ∧ w = w' := by
  go_enter Tryd.func40, Tryd.ntmps40
  go_wp2
  go_ret
  exact ⟨rfl, rfl⟩
theorem rLetters_all (c y : Int) (w : World) :
    Calls Tryd.prog 34 #[.int .i64 c, .int .i64 y] w fun e w' => e = .returned (.tuple #[.int .i64 (ltA c y), .int .i64 (ltB c y), .int .i64 (ylE c y)]) ∧ Kept w w' := by
  rcases lt_cases c y with ⟨h, e1, e2⟩ | ⟨h, hc, h1, h2, e1, hb⟩
  · rw [e1, e2]
    rcases yl_cases c y with ⟨hc, _, a⟩ | ⟨hc, hy, _, a⟩ | ⟨_, _, _, _, a⟩
    · rw [a]
      have hc' : c < 1 ∨ 2 < c := by unfold IsCal at hc; omega
      clear hc e1 e2 a h
      rcases hc' with hc' | hc'
      all_goals
        go_enter Tryd.func34, Tryd.ntmps34
        go_wp2
        go_ret3
        exact ⟨rfl, (by repeat (first | with_reducible exact Kept.refl _ | with_reducible assumption | with_reducible refine Kept.drew ?_ | with_reducible refine Kept.drewN ?_ _ | with_reducible refine Kept.alloc ?_ _ | (with_reducible refine Kept.setCell ?_ (by first | exact Nat.le_refl _ | omega | (simp; done) | (simp; omega)) _) | (with_reducible refine Kept.trans ?_ (by with_reducible assumption))))⟩
    · rw [a]
      have hc' : 1 ≤ c ∧ c ≤ 2 := by unfold IsCal at hc; omega
      obtain ⟨hc1, hc2⟩ := hc'
      clear hc e1 e2 a h
      go_enter Tryd.func34, Tryd.ntmps34
      go_wp2_with (go_at_call 30; refine (In_no _ _ hy).mono ?_; rintro e w1 ⟨rfl, rfl⟩)
      go_ret3
      exact ⟨rfl, (by repeat (first | with_reducible exact Kept.refl _ | with_reducible assumption | with_reducible refine Kept.drew ?_ | with_reducible refine Kept.drewN ?_ _ | with_reducible refine Kept.alloc ?_ _ | (with_reducible refine Kept.setCell ?_ (by first | exact Nat.le_refl _ | omega | (simp; done) | (simp; omega)) _) | (with_reducible refine Kept.trans ?_ (by with_reducible assumption))))⟩
    · omega
  · obtain ⟨j1, j2⟩ := jan1 c y hc h1 h2
    obtain ⟨f1, f2⟩ := fst_bounds c y h1 (by omega)
    have KD := Lib.hid (fun w => refToDay_all c y 1 1 w)
    have hcz : cN c y 1 1 = num c y 1 1 ∧ cE c y 1 1 = 0 := by
      rcases c_cases c y 1 1 with ⟨_, _, a, b⟩ | ⟨_, _, _, a⟩
      · exact ⟨a, b⟩
      · exact absurd ⟨hc, j1⟩ a
    rw [hcz.1, hcz.2, j2] at KD
    have hc' : 1 ≤ c ∧ c ≤ 2 := by unfold IsCal at hc; omega
    obtain ⟨hc1, hc2⟩ := hc'
    have KL := Lib.hid (fun w => refLeap_any c y w (by omega) (by omega))
    rw [h, e1]
    clear h e1 j1 j2 hcz hc
    rcases hb with ⟨el, _, e4⟩ | ⟨el, _, e4⟩
    all_goals
      rw [el] at KL
      have HB := Lib.hid e4
      clear el e4
      go_enter Tryd.func34, Tryd.ntmps34
      go_wp2_with fail
      (go_at_call 30; refine (In_yes _ _ h1 h2).mono ?_; rintro e w1 ⟨rfl, rfl⟩)
      go_wp2_with fail
      (go_at_call 26; refine (KD.out _).mono ?_; rintro e w1 ⟨rfl, hk1⟩)
      go_wp2_with fail
      go_loop [7, 9] (fun nv av => ∃ j : Int, 0 ≤ j ∧ j ≤ -fst c y % 7 ∧ nv = .int .i64 (fst c y + j) ∧ av = .int .i64 (1 + j)) (fun _ av => (8 - intOf av).toNat)
      case atStart => exact ⟨0, by omega, by omega, by rw [Int.add_zero], rfl⟩
      case round =>
        obtain ⟨j, hj1, hj2, rfl, rfl⟩ := hrel
        by_cases hlt : j < -fst c y % 7
        · have hm : 1 ≤ (fst c y + j) % 7 := by omega
          go_wp2_with (go_at_call 29; refine (rWOf_any _ _ (by omega) (by omega)).mono ?_; rintro e w1 ⟨rfl, rfl⟩)
          go_round
          case rel => exact ⟨j + 1, by omega, by omega, by go_num, by go_num⟩
          case measure => simp [intOf]; omega
        · have hm : (fst c y + j) % 7 ≤ 0 := by omega
          have hm0 : 0 ≤ (fst c y + j) % 7 := by omega
          by_cases hj0 : j = 0
          · subst hj0
            go_wp2_with (first | (go_at_call 29; refine (rWOf_any _ _ (by omega) (by omega)).mono ?_; rintro e w1 ⟨rfl, rfl⟩) | (go_at_call 21; refine (KL.out _).mono ?_; rintro e w1 ⟨rfl, rfl⟩))
            go_ret3
            exact ⟨by rw [HB.out]; simp; omega, (by repeat (first | with_reducible exact Kept.refl _ | with_reducible assumption | with_reducible refine Kept.drew ?_ | with_reducible refine Kept.drewN ?_ _ | with_reducible refine Kept.alloc ?_ _ | (with_reducible refine Kept.setCell ?_ (by first | exact Nat.le_refl _ | omega | (simp; done) | (simp; omega)) _) | (with_reducible refine Kept.trans ?_ (by with_reducible assumption))))⟩
          · have hj3 : 1 ≤ j := by omega
            clear hj0
            go_wp2_with (first | (go_at_call 29; refine (rWOf_any _ _ (by omega) (by omega)).mono ?_; rintro e w1 ⟨rfl, rfl⟩) | (go_at_call 21; refine (KL.out _).mono ?_; rintro e w1 ⟨rfl, rfl⟩))
            go_ret3
            exact ⟨by rw [HB.out]; simp; omega, (by repeat (first | with_reducible exact Kept.refl _ | with_reducible assumption | with_reducible refine Kept.drew ?_ | with_reducible refine Kept.drewN ?_ _ | with_reducible refine Kept.alloc ?_ _ | (with_reducible refine Kept.setCell ?_ (by first | exact Nat.le_refl _ | omega | (simp; done) | (simp; omega)) _) | (with_reducible refine Kept.trans ?_ (by with_reducible assumption))))⟩

theorem Gold_awake (w : World) (hT : Tab w) : Calls Tryd.prog 22 #[] w fun e w' => e = .returned (.bool true) ∧ Kept w w' := by
  have KT := Lib.hid (fun w' (k : Kept w w') => hT.kept k)
  have KL1 := Lib.hid (fun w hT => Letters_all 2 2000 w hT)
  rw [show ltA 2 2000 = 2 from by decide, show ltB 2 2000 = 1 from by decide, show ylE 2 2000 = 0 from by decide] at KL1
  have KL2 := Lib.hid (fun w hT => Letters_all 0 2000 w hT)
  rw [show ltA 0 2000 = 0 from by decide, show ltB 0 2000 = 0 from by decide, show ylE 0 2000 = 3 from by decide] at KL2
  have KG := Lib.hid (fun w => Golden_ok 2000 w (by omega) (by omega))
  rw [show glN 2000 = 6 from by decide] at KG
  have KS := Lib.hid (fun w => Solar_ok 2000 w (by omega) (by omega))
  rw [show soN 2000 = 3 from by decide] at KS
  have KU := Lib.hid (fun w => Lunar_ok 2000 w (by omega) (by omega))
  rw [show luN 2000 = 1 from by decide] at KU
  clear hT
  go_enter Tryd.func22, Tryd.ntmps22
  go_wp2_with fail
  (go_at_call 23; refine (KG.out _).mono ?_; rintro e w1 ⟨rfl, hk1⟩)
  go_wp2_with fail
  (go_at_call 24; refine (KS.out _).mono ?_; rintro e w2 ⟨rfl, hk2⟩)
  go_wp2_with fail
  (go_at_call 25; refine (KU.out _).mono ?_; rintro e w3 ⟨rfl, hk3⟩)
  go_wp2_with fail
  (go_at_call 27; refine (KL1.out _ (KT.out _ (by repeat (first | with_reducible exact Kept.refl _ | with_reducible assumption | with_reducible refine Kept.drew ?_ | with_reducible refine Kept.drewN ?_ _ | with_reducible refine Kept.alloc ?_ _ | (with_reducible refine Kept.setCell ?_ (by first | exact Nat.le_refl _ | omega | (simp; done) | (simp; omega)) _) | (with_reducible refine Kept.trans ?_ (by with_reducible assumption)))))).mono ?_; rintro e w4 ⟨rfl, hk4⟩)
  go_wp2_with fail
  (go_at_call 23; refine (Golden_no _ _ (by omega)).mono ?_; rintro e w5 ⟨rfl, hk5⟩)
  go_wp2_with fail
  (go_at_call 24; refine (Solar_no _ _ (by omega)).mono ?_; rintro e w6 ⟨rfl, hk6⟩)
  go_wp2_with fail
  (go_at_call 27; refine (KL2.out _ (KT.out _ (by repeat (first | with_reducible exact Kept.refl _ | with_reducible assumption | with_reducible refine Kept.drew ?_ | with_reducible refine Kept.drewN ?_ _ | with_reducible refine Kept.alloc ?_ _ | (with_reducible refine Kept.setCell ?_ (by first | exact Nat.le_refl _ | omega | (simp; done) | (simp; omega)) _) | (with_reducible refine Kept.trans ?_ (by with_reducible assumption)))))).mono ?_; rintro e w7 ⟨rfl, hk7⟩)
  go_wp2
  go_ret
  exact ⟨rfl, (by repeat (first | with_reducible exact Kept.refl _ | with_reducible assumption | with_reducible refine Kept.drew ?_ | with_reducible refine Kept.drewN ?_ _ | with_reducible refine Kept.alloc ?_ _ | (with_reducible refine Kept.setCell ?_ (by first | exact Nat.le_refl _ | omega | (simp; done) | (simp; omega)) _) | (with_reducible refine Kept.trans ?_ (by with_reducible assumption))))⟩
end Go.Proofs.YtcfgiboknkkheaaDoor

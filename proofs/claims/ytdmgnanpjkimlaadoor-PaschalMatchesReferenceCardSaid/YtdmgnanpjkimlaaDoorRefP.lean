/- Contracts: reference 09: NewMoon, Fails, FullMoon; reference 10: Day, Date. -/
import Derived.Test.YtdmgnanpjkimlaaDoorPas
import Derived.Test.YtdmgnanpjkimlaaDoorRefE
import Derived.Test.YtdmgnanpjkimlaaDoorRefLab2
import Derived.Outline
set_option linter.unusedSimpArgs false
set_option linter.unusedVariables false
set_option linter.unusedSectionVars false
namespace Go.Proofs.YtdmgnanpjkimlaaDoor
open Go.ChangeShapes Go.WideShapes Go.ChangeAt Go.RowKit
set_option maxHeartbeats 800000
set_option maxRecDepth 20000

theorem rNewMoon_ok (c y m d : Int) (w : World) (h : Fit c y) :
    Calls Tryd.prog 10 #[.int .i64 c, .agg #[.int .i64 y, .int .i64 m, .int .i64 d]] w fun e w' => e = .returned (.bool (bears m d (labN c y))) ∧ Kept w w' := by
  have KL := Lib.hid (fun w => rELabel_ok c y w h)
  have KB := Lib.hid (fun w => rBears_of m d (labN c y) w)
  have hb := labN_bounds c y
  clear h
  generalize labN c y = l at *
  generalize bears m d l = r at *
  go_enter Tryd.func10, Tryd.ntmps10
  go_wp2
  go_region_held3 (fun w' => Kept (w.alloc (.cells #[.int .i64 y, .int .i64 m, .int .i64 d] 23)) w' ∧ (∀ b o, b < (w.alloc (.cells #[.int .i64 y, .int .i64 m, .int .i64 d] 23)).heap.size → w'.cell? ⟨b, o, none⟩ = (w.alloc (.cells #[.int .i64 y, .int .i64 m, .int .i64 d] 23)).cell? ⟨b, o, none⟩)) (first | exact held_of (Kept.drew (Kept.refl _)) | exact held_of (Kept.trans (And.left (by assumption)) (by assumption))) (first | (go_at_call 20; (with_reducible refine (KB.out _).mono ?_); rintro e w1 ⟨rfl, hk1⟩) | (go_at_call 21; (with_reducible refine (KL.out _).mono ?_); rintro e w1 ⟨rfl, rfl⟩))
  go_wp2
  go_ret
  exact ⟨rfl, (by repeat (first | with_reducible exact Kept.refl _ | with_reducible assumption | with_reducible refine Kept.drew ?_ | with_reducible refine Kept.drewN ?_ _ | with_reducible refine Kept.alloc ?_ _ | (with_reducible refine Kept.setCell ?_ (by first | exact Nat.le_refl _ | omega | (simp; done) | (simp; omega)) _) | (with_reducible refine Kept.trans ?_ (by with_reducible assumption))))⟩
theorem rPFails_any (c y m d : Int) (w : World) :
    Calls Tryd.prog 9 #[.int .i64 c, .agg #[.int .i64 y, .int .i64 m, .int .i64 d]] w fun e w' => e = .returned (.int .i64 (nmE c y m d)) ∧ Kept w w' := by
  have KF := Lib.hid (fun w => Fails_any c y w)
  have KD := Lib.hid (fun w => refToDay_all c y m d w)
  have hr := cE_range c y m d
  by_cases h0 : flE c y = 0
  · have h1 : nmE c y m d = cE c y m d := if_pos h0
    rw [h0] at KF
    rw [h1]
    go_enter Tryd.func9, Tryd.ntmps9
    go_wp2_with first | (go_at_call 6; (with_reducible refine (KF.out _).mono ?_); rintro e w1 ⟨rfl, rfl⟩) | (go_at_call 16; (with_reducible refine (KD.out _).mono ?_); rintro e w1 ⟨rfl, hk1⟩)
    go_ret
    exact ⟨rfl, (by repeat (first | with_reducible exact Kept.refl _ | with_reducible assumption | with_reducible refine Kept.drew ?_ | with_reducible refine Kept.drewN ?_ _ | with_reducible refine Kept.alloc ?_ _ | (with_reducible refine Kept.setCell ?_ (by first | exact Nat.le_refl _ | omega | (simp; done) | (simp; omega)) _) | (with_reducible refine Kept.trans ?_ (by with_reducible assumption))))⟩
  · have h1 : nmE c y m d = flE c y := if_neg h0
    rw [h1]
    have hf : 0 ≤ flE c y ∧ flE c y ≤ 3 := by rcases fl_cases c y with ⟨_, e⟩ | ⟨_, e⟩ | ⟨_, e⟩ <;> omega
    clear h1
    generalize flE c y = x at *
    go_enter Tryd.func9, Tryd.ntmps9
    go_wp2_with (go_at_call 6; (with_reducible refine (KF.out _).mono ?_); rintro e w1 ⟨rfl, rfl⟩)
    go_ret
    exact ⟨rfl, (by repeat (first | with_reducible exact Kept.refl _ | with_reducible assumption | with_reducible refine Kept.drew ?_ | with_reducible refine Kept.drewN ?_ _ | with_reducible refine Kept.alloc ?_ _ | (with_reducible refine Kept.setCell ?_ (by first | exact Nat.le_refl _ | omega | (simp; done) | (simp; omega)) _) | (with_reducible refine Kept.trans ?_ (by with_reducible assumption))))⟩
theorem rFullMoon_ok (k y : Int) (w : World) (h : Fit k y) :
    Calls Tryd.prog 7 #[.int .i64 k, .int .i64 y] w fun e w' => e = .returned (.agg #[.int .i64 y, .int .i64 (dmo (moonI k y)), .int .i64 (dda (moonI k y))]) ∧ Kept w w' := by
  have hb := moonI_bounds k y
  have hq := eqN_bounds k y (fit_cal k y h).2.1 (fit_cal k y h).2.2
  have hz := day_c k y 0 h (by omega) (by omega)
  rw [show dmo 0 = 3 from rfl, show dda 0 = 21 from rfl, Int.add_zero] at hz
  have KD := Lib.hid (fun w => refToDay_all k y 3 21 w)
  rw [hz.1, hz.2] at KD
  have KF := Lib.hid (fun i n w (hn : n = eqN k y + i) a b => refFromDay_all k n y (dmo i) (dda i) 0 w (by rw [hn]; exact fd_day k y i h a b))
  have KN := Lib.hid (fun i w (a : 0 ≤ i) (b : i ≤ 28) => rNewMoon_ok k y (dmo (i - 13)) (dda (i - 13)) w h)
  have KM := Lib.hid (fun i a b => moon_bears k y i a b)
  clear h hz
  generalize eqN k y = q at *
  generalize hgM : moonI k y = M at *
  go_enter Tryd.func7, Tryd.ntmps7
  have HR0 := (Dblk.new w (.int .i64 0) (.int .i64 0) (.int .i64 0)).alloc (.cells #[.int .i64 y, .int .i64 3, .int .i64 21] 23)
  have K0 := ((Kept.refl w).alloc (.cells #[.int .i64 0, .int .i64 0, .int .i64 0] 23)).alloc (.cells #[.int .i64 y, .int .i64 3, .int .i64 21] 23)
  go_wp2_with fail
  go_at_call 16
  refine (KD.out _).mono ?_
  rintro e w1 ⟨rfl, hk1⟩
  have K1 := K0.trans hk1
  have HR1 := HR0.kept hk1
  clear HR0 K0 hk1
  go_wp2_with fail
  go_loopw [6, 8] (fun n i wr => ∃ j : Int, 0 ≤ j ∧ j ≤ M ∧ n = .int .i64 (q + j) ∧ i = .int .i64 j ∧ Dblk wr w.heap.size (.int .i64 0) (.int .i64 0) (.int .i64 0) ∧ Kept w wr) (fun _ i _ => (40 - intOf i).toNat)
  case atStart => exact ⟨0, by omega, by omega, by go_num, rfl, HR1, K1⟩
  case round =>
    obtain ⟨j, j0, j1, rfl, rfl, HR, hkw⟩ := hrel
    go_wp2_with fail
    go_at_call 17
    refine (KF.out (j - 13) _ _ (by omega) (by omega) (by omega)).mono ?_
    rintro e w2 ⟨rfl, hk2⟩
    have K2 := (hkw.trans hk2).alloc (.cells #[.int .i64 y, .int .i64 (dmo (j - 13)), .int .i64 (dda (j - 13))] 23)
    have HR2 := (HR.kept hk2).alloc (.cells #[.int .i64 y, .int .i64 (dmo (j - 13)), .int .i64 (dda (j - 13))] 23)
    go_wp2_with fail
    go_at_call 10
    refine (KN.out j _ (by omega) (by omega)).mono ?_
    rw [KM.out j (by omega) (by omega)]
    rintro e w3 ⟨rfl, hk3⟩
    have K3 := K2.trans hk3
    have HR3 := HR2.kept hk3
    by_cases hj : j = M
    · rw [decide_eq_true hj]
      subst hj
      go_wp2_with fail
      go_at_call 17
      refine (KF.out j _ _ rfl (by omega) (by omega)).mono ?_
      rintro e w4 ⟨rfl, hk4⟩
      have K4 := K3.trans hk4
      obtain ⟨r1, r2, r3, r4, r5, r6⟩ := ((HR3.kept hk4).alloc (.cells #[.int .i64 y, .int .i64 (dmo j), .int .i64 (dda j)] 23)).cells
      have hz4 := ((HR3.kept hk4).alloc (.cells #[.int .i64 y, .int .i64 (dmo j), .int .i64 (dda j)] 23)).lt
      go_wp2
      exact bodyPost_ret (v := .agg #[.int .i64 y, .int .i64 (dmo j), .int .i64 (dda j)]) (by simp [results, Tryd.results7, go_sem, *]) rfl ⟨rfl, (by repeat (first | with_reducible exact Kept.refl _ | with_reducible assumption | with_reducible refine Kept.drew ?_ | with_reducible refine Kept.drewN ?_ _ | with_reducible refine Kept.alloc ?_ _ | (with_reducible refine Kept.setCell ?_ (by first | exact Nat.le_refl _ | omega | (simp; done) | (simp; omega)) _) | (with_reducible refine Kept.trans ?_ (by with_reducible assumption))))⟩
    · rw [decide_eq_false hj]
      go_wp2_with fail
      go_roundw
      case rel => exact ⟨j + 1, by omega, by omega, by go_num, by go_num, HR3, K3⟩
      case measure => simp [intOf]; omega
end Go.Proofs.YtdmgnanpjkimlaaDoor

/- Contracts: reference 09: NewMoon, Fails, FullMoon; reference 10: Day, Date. -/
import Derived.Test.YtekgaihdfnhkpaaPas
import Derived.Test.YtekgaihdfnhkpaaRefE
import Derived.Test.YtekgaihdfnhkpaaRefLab2
import Derived.Outline
set_option linter.unusedSimpArgs false
set_option linter.unusedVariables false
set_option linter.unusedSectionVars false
namespace Go.Proofs.Ytekgaihdfnhkpaa
open Go.ChangeShapes Go.WideShapes Go.ChangeAt Go.RowKit
set_option maxHeartbeats 800000
set_option maxRecDepth 20000

theorem rNewMoon_ok (c y m d : Int) (w : World) (h : Fit c y) :
    Calls Try.prog 54 #[.int .i64 c, .agg #[.int .i64 y, .int .i64 m, .int .i64 d]] w fun e w' => e = .returned (.bool (bears m d (labN c y))) ∧ Kept w w' := by
  have KL := Lib.hid (fun w => rELabel_ok c y w h)
  have KB := Lib.hid (fun w => rBears_of m d (labN c y) w)
  have hb := labN_bounds c y
  clear h
  generalize labN c y = l at *
  generalize bears m d l = r at *
  go_enter Try.func54, Try.ntmps54
  go_wp2
  go_region_held3 (fun w' => Kept (w.alloc (.cells #[.int .i64 y, .int .i64 m, .int .i64 d] 35)) w' ∧ (∀ b o, b < (w.alloc (.cells #[.int .i64 y, .int .i64 m, .int .i64 d] 35)).heap.size → w'.cell? ⟨b, o, none⟩ = (w.alloc (.cells #[.int .i64 y, .int .i64 m, .int .i64 d] 35)).cell? ⟨b, o, none⟩)) (first | exact held_of (Kept.drew (Kept.refl _)) | exact held_of (Kept.trans (And.left (by assumption)) (by assumption))) (first | (go_at_call 61; (with_reducible refine (KB.out _).mono ?_); rintro e w1 ⟨rfl, hk1⟩) | (go_at_call 62; (with_reducible refine (KL.out _).mono ?_); rintro e w1 ⟨rfl, rfl⟩))
  go_wp2
  go_ret
  exact ⟨rfl, (by repeat (first | with_reducible exact Kept.refl _ | with_reducible assumption | with_reducible refine Kept.drew ?_ | with_reducible refine Kept.drewN ?_ _ | with_reducible refine Kept.alloc ?_ _ | (with_reducible refine Kept.setCell ?_ (by first | exact Nat.le_refl _ | omega | (simp; done) | (simp; omega)) _) | (with_reducible refine Kept.trans ?_ (by with_reducible assumption))))⟩
theorem rFullMoon_ok (k y : Int) (w : World) (h : Fit k y) :
    Calls Try.prog 41 #[.int .i64 k, .int .i64 y] w fun e w' => e = .returned (.agg #[.int .i64 y, .int .i64 (dmo (moonI k y)), .int .i64 (dda (moonI k y))]) ∧ Kept w w' := by
  have hb := moonI_bounds k y
  have hq := eqN_bounds k y (fit_cal k y h).2.1 (fit_cal k y h).2.2
  have hz := day_c k y 0 h (by omega) (by omega)
  rw [show dmo 0 = 3 from rfl, show dda 0 = 21 from rfl, Int.add_zero] at hz
  have KD := Lib.hid (fun w => refToDay_all k y 3 21 w)
  rw [hz.1, hz.2] at KD
  have KF := Lib.hid (fun i n w (hn : n = eqN k y + i) a b => refFromDay_all k n y (dmo i) (dda i) 0 w (by rw [hn]; exact fd_day k y i h a b))
  have KN := Lib.hid (fun i w (a : 0 ≤ i) (b : i ≤ 28) => rNewMoon_ok k y (dmo (i - 13)) (dda (i - 13)) w h)
  have KM := Lib.hid (fun i a b => moon_bears k y i a b)
  clear h hz
  generalize eqN k y = q at *
  generalize hgM : moonI k y = M at *
  go_enter Try.func41, Try.ntmps41
  have HR0 := (Dblk.new w (.int .i64 0) (.int .i64 0) (.int .i64 0)).alloc (.cells #[.int .i64 y, .int .i64 3, .int .i64 21] 35)
  have K0 := ((Kept.refl w).alloc (.cells #[.int .i64 0, .int .i64 0, .int .i64 0] 35)).alloc (.cells #[.int .i64 y, .int .i64 3, .int .i64 21] 35)
  go_wp2_with fail
  go_at_call 40
  refine (KD.out _).mono ?_
  rintro e w1 ⟨rfl, hk1⟩
  have K1 := K0.trans hk1
  have HR1 := HR0.kept hk1
  clear HR0 K0 hk1
  go_wp2_with fail
  go_loopw [6, 8] (fun n i wr => ∃ j : Int, 0 ≤ j ∧ j ≤ M ∧ n = .int .i64 (q + j) ∧ i = .int .i64 j ∧ Dblk wr w.heap.size (.int .i64 0) (.int .i64 0) (.int .i64 0) ∧ Kept w wr) (fun _ i _ => (40 - intOf i).toNat)
  case atStart => exact ⟨0, by omega, by omega, by go_num, rfl, HR1, K1⟩
  case round =>
    obtain ⟨j, j0, j1, rfl, rfl, HR, hkw⟩ := hrel
    go_wp2_with fail
    go_at_call 30
    refine (KF.out (j - 13) _ _ (by omega) (by omega) (by omega)).mono ?_
    rintro e w2 ⟨rfl, hk2⟩
    have K2 := (hkw.trans hk2).alloc (.cells #[.int .i64 y, .int .i64 (dmo (j - 13)), .int .i64 (dda (j - 13))] 35)
    have HR2 := (HR.kept hk2).alloc (.cells #[.int .i64 y, .int .i64 (dmo (j - 13)), .int .i64 (dda (j - 13))] 35)
    go_wp2_with fail
    go_at_call 54
    refine (KN.out j _ (by omega) (by omega)).mono ?_
    rw [KM.out j (by omega) (by omega)]
    rintro e w3 ⟨rfl, hk3⟩
    have K3 := K2.trans hk3
    have HR3 := HR2.kept hk3
    by_cases hj : j = M
    · rw [decide_eq_true hj]
      subst hj
      go_wp2_with fail
      go_at_call 30
      refine (KF.out j _ _ rfl (by omega) (by omega)).mono ?_
      rintro e w4 ⟨rfl, hk4⟩
      have K4 := K3.trans hk4
      obtain ⟨r1, r2, r3, r4, r5, r6⟩ := ((HR3.kept hk4).alloc (.cells #[.int .i64 y, .int .i64 (dmo j), .int .i64 (dda j)] 35)).cells
      have hz4 := ((HR3.kept hk4).alloc (.cells #[.int .i64 y, .int .i64 (dmo j), .int .i64 (dda j)] 35)).lt
      go_wp2
      exact bodyPost_ret (v := .agg #[.int .i64 y, .int .i64 (dmo j), .int .i64 (dda j)]) (by simp [results, Try.results41, go_sem, *]) rfl ⟨rfl, (by repeat (first | with_reducible exact Kept.refl _ | with_reducible assumption | with_reducible refine Kept.drew ?_ | with_reducible refine Kept.drewN ?_ _ | with_reducible refine Kept.alloc ?_ _ | (with_reducible refine Kept.setCell ?_ (by first | exact Nat.le_refl _ | omega | (simp; done) | (simp; omega)) _) | (with_reducible refine Kept.trans ?_ (by with_reducible assumption))))⟩
    · rw [decide_eq_false hj]
      go_wp2_with fail
      go_roundw
      case rel => exact ⟨j + 1, by omega, by omega, by go_num, by go_num, HR3, K3⟩
      case measure => simp [intOf]; omega
theorem rDay_ok (k y : Int) (w : World) (h : Fit k y) :
    Calls Try.prog 31 #[.int .i64 k, .int .i64 y] w fun e w' => e = .returned (.int .i64 (esN k y)) ∧ Kept w w' := by
  have hb := moonI_bounds k y
  have hq := eqN_bounds k y (fit_cal k y h).2.1 (fit_cal k y h).2.2
  have hz := day_c k y (moonI k y) h (by omega) (by omega)
  have KD := Lib.hid (fun w => refToDay_all k y (dmo (moonI k y)) (dda (moonI k y)) w)
  rw [hz.1, hz.2] at KD
  have KM := Lib.hid (fun w => rFullMoon_ok k y w h)
  have KO := Lib.hid (fun n w a b => rWOf_any n w a b)
  clear h hz
  unfold esN
  have hn : 0 ≤ eqN k y + moonI k y ∧ eqN k y + moonI k y ≤ 365250000100 := by omega
  generalize eqN k y + moonI k y = n at *
  clear hq
  have HT : Hid (0 ≤ (0 - (n + 1)) % 7 ∧ (0 - (n + 1)) % 7 ≤ 6 ∧ ∀ j : Int, 0 ≤ j → j ≤ 6 → ((n + 1 + j) % 7 = 0 ↔ j = (0 - (n + 1)) % 7)) := (show _ ∧ _ ∧ _ from ⟨by omega, by omega, fun j a b => by omega⟩)
  generalize (0 - (n + 1)) % 7 = T at *
  go_enter Try.func31, Try.ntmps31
  go_wp2_with fail
  (go_at_call 41; refine (KM.out _).mono ?_; rintro e w1 ⟨rfl, hk1⟩)
  go_wp2_with fail
  (go_at_call 40; refine (KD.out _).mono ?_; rintro e w2 ⟨rfl, hk2⟩)
  go_wp2_with fail
  go_loopw [5] (fun v wr => ∃ j : Int, 0 ≤ j ∧ j ≤ T ∧ v = .int .i64 (n + 1 + j) ∧ Kept w wr) (fun v _ => (n + 8 - intOf v).toNat)
  case atStart => exact ⟨0, by omega, HT.out.1, by go_num, (by repeat (first | with_reducible exact Kept.refl _ | with_reducible assumption | with_reducible refine Kept.drew ?_ | with_reducible refine Kept.drewN ?_ _ | with_reducible refine Kept.alloc ?_ _ | (with_reducible refine Kept.setCell ?_ (by first | exact Nat.le_refl _ | omega | (simp; done) | (simp; omega)) _) | (with_reducible refine Kept.trans ?_ (by with_reducible assumption))))⟩
  case round =>
    obtain ⟨j, j0, j1, rfl, hkw⟩ := hrel
    have hT2 := HT.out.2.1
    have hz := HT.out.2.2 j j0 (by omega)
    by_cases hj : j = T
    · have h0 := hz.2 hj
      clear hz
      subst hj
      go_wp2_with (go_at_call 42; (with_reducible refine (KO.out _ _ (by omega) (by omega)).mono ?_); rintro e w1 ⟨rfl, rfl⟩)
      go_ret
      exact ⟨rfl, hkw⟩
    · have h0 : ¬ (n + 1 + j) % 7 = 0 := fun g => hj (hz.1 g)
      clear hz
      go_wp2_with (go_at_call 42; (with_reducible refine (KO.out _ _ (by omega) (by omega)).mono ?_); rintro e w1 ⟨rfl, rfl⟩)
      go_roundw
      case rel => exact ⟨j + 1, by omega, by omega, by go_num, hkw⟩
      case measure => simp [intOf]; omega
theorem rDate_ok (k y : Int) (w : World) (h : Fit k y) :
    Calls Try.prog 15 #[.int .i64 k, .int .i64 y] w fun e w' => e = .returned (.agg #[.int .i64 y, .int .i64 (dmo (easI k y)), .int .i64 (dda (easI k y))]) ∧ Kept w w' := by
  have hi := easI_bounds k y
  have hfd := fd_day k y (easI k y) h (by omega) (by omega)
  rw [← esN_val] at hfd
  have KD := Lib.hid (fun w => rDay_ok k y w h)
  have KF := Lib.hid (fun w => refFromDay_all k (esN k y) _ _ _ _ w hfd)
  clear h hfd
  generalize esN k y = n at *
  generalize dmo (easI k y) = x2 at *
  generalize dda (easI k y) = x3 at *
  go_enter Try.func15, Try.ntmps15
  go_wp2_with fail
  (go_at_call 31; refine (KD.out _).mono ?_; rintro e w1 ⟨rfl, hk1⟩)
  have hB1_1 := hk1
  obtain ⟨hc1_1, hf1_1⟩ := kept_cells hB1_1
  have hz1_0_1 : w.heap.size < w1.heap.size := by have := hB1_1.size; simp at this; omega
  go_wp2_with fail
  (go_at_call 30; refine (KF.out _).mono ?_; rintro e w2 ⟨rfl, hk2⟩)
  have hB1_2 := Kept.trans hB1_1 hk2
  obtain ⟨hc1_2, hf1_2⟩ := kept_cells hB1_2
  have hz1_0_2 : w.heap.size < w2.heap.size := by have := hB1_2.size; simp at this; omega
  go_wp2
  exact bodyPost_ret (v := .agg #[.int .i64 y, .int .i64 x2, .int .i64 x3]) (by simp [results, Try.results15, go_sem, *]) rfl ⟨rfl, (by repeat (first | with_reducible exact Kept.refl _ | with_reducible assumption | with_reducible refine Kept.drew ?_ | with_reducible refine Kept.drewN ?_ _ | with_reducible refine Kept.alloc ?_ _ | (with_reducible refine Kept.setCell ?_ (by first | exact Nat.le_refl _ | omega | (simp; done) | (simp; omega)) _) | (with_reducible refine Kept.trans ?_ (by with_reducible assumption))))⟩
end Go.Proofs.Ytekgaihdfnhkpaa

/- The model of the Whole laws: Easter by counting days one by one. -/
import Derived.Test.YtblaphkaklocfaaGreatDoorG05
import Derived.Test.YtblaphkaklocfaaGreatDoorG07
import Derived.Outline
import Derived.Deep.LoopGhost
set_option linter.unusedSimpArgs false
set_option linter.unusedVariables false
set_option linter.unusedSectionVars false
namespace Go.Proofs.YtblaphkaklocfaaGreatDoor
open Go.ChangeShapes Go.WideShapes Go.ChangeAt Go.RowKit
set_option maxHeartbeats 1600000
set_option maxRecDepth 20000

theorem Nxt_day (b : Bool) (y m d : Int) (w : World) (hy : y ≤ 1000000000) (h0 : 1 ≤ d) (h2 : d < mlen b m) (h3 : mlen b m ≤ 31) :
    Calls Tryz.prog 39 #[.agg #[.int .i64 y, .int .i64 m, .int .i64 d], .bool b] w fun e w' => e = .returned (.agg #[.int .i64 y, .int .i64 m, .int .i64 (d + 1)]) ∧ Kept w w' := by
  go_enter Tryz.func39, Tryz.ntmps39
  go_wp2_with fail
  go_quiet ((go_at_call 49; exact quiet_leftR (rLen_any _ _ _)))
  go_wp2_with fail
  go_wp2
  exact bodyPost_ret (v := .agg #[.int .i64 y, .int .i64 m, .int .i64 (d + 1)]) (by simp [results, Tryz.results39, go_sem, *]) rfl ⟨rfl, (by repeat (first | with_reducible exact Kept.refl _ | with_reducible assumption | with_reducible refine Kept.drew ?_ | with_reducible refine Kept.drewN ?_ _ | with_reducible refine Kept.alloc ?_ _ | (with_reducible refine Kept.setCell ?_ (by first | exact Nat.le_refl _ | omega | (simp; done) | (simp; omega)) _) | (with_reducible refine Kept.trans ?_ (by with_reducible assumption))))⟩
theorem Nxt_month (b : Bool) (y m d : Int) (w : World) (hy : y ≤ 1000000000) (h0 : 1 ≤ m) (h1 : m < 12) (h2 : mlen b m ≤ d) :
    Calls Tryz.prog 39 #[.agg #[.int .i64 y, .int .i64 m, .int .i64 d], .bool b] w fun e w' => e = .returned (.agg #[.int .i64 y, .int .i64 (m + 1), .int .i64 1]) ∧ Kept w w' := by
  go_enter Tryz.func39, Tryz.ntmps39
  go_wp2_with fail
  go_quiet ((go_at_call 49; exact quiet_leftR (rLen_any _ _ _)))
  go_wp2_with fail
  go_wp2
  exact bodyPost_ret (v := .agg #[.int .i64 y, .int .i64 (m + 1), .int .i64 1]) (by simp [results, Tryz.results39, go_sem, *]) rfl ⟨rfl, (by repeat (first | with_reducible exact Kept.refl _ | with_reducible assumption | with_reducible refine Kept.drew ?_ | with_reducible refine Kept.drewN ?_ _ | with_reducible refine Kept.alloc ?_ _ | (with_reducible refine Kept.setCell ?_ (by first | exact Nat.le_refl _ | omega | (simp; done) | (simp; omega)) _) | (with_reducible refine Kept.trans ?_ (by with_reducible assumption))))⟩
/-- Three stores into a date's block; another block; what is kept. -/
theorem Dblk.put3 {w : World} {b : Nat} {y m d : Value} (h : Dblk w b y m d) (y' m' d' : Value) : Dblk (((w.setCell ⟨b, 0, none⟩ y').setCell ⟨b, 1, none⟩ m').setCell ⟨b, 2, none⟩ d') b y' m' d' := ((h.set0 _).set1 _).set2 _
theorem Dblk.off3 {w : World} {b b' : Nat} {y m d : Value} (h : Dblk w b y m d) (hne : b ≠ b') (y' m' d' : Value) : Dblk (((w.setCell ⟨b', 0, none⟩ y').setCell ⟨b', 1, none⟩ m').setCell ⟨b', 2, none⟩ d') b y m d := ((h.other hne _ _).other hne _ _).other hne _ _
theorem kept3 {v w : World} {b : Nat} (h : Kept v w) (hb : v.heap.size ≤ b) (y' m' d' : Value) : Kept v (((w.setCell ⟨b, 0, none⟩ y').setCell ⟨b, 1, none⟩ m').setCell ⟨b, 2, none⟩ d') := Kept.setCell (Kept.setCell (Kept.setCell h hb _) hb _) hb _
theorem Nxt_i (b : Bool) (y i : Int) (w : World) (hy : y ≤ 1000000000) (h1 : -20 ≤ i) (h2 : i ≤ 39) :
    Calls Tryz.prog 39 #[.agg #[.int .i64 y, .int .i64 (dmo i), .int .i64 (dda i)], .bool b] w fun e w' => e = .returned (.agg #[.int .i64 y, .int .i64 (dmo (i + 1)), .int .i64 (dda (i + 1))]) ∧ Kept w w' := by
  have l3 : mlen b 3 = 31 := by cases b <;> decide
  have l4 : mlen b 4 = 30 := by cases b <;> decide
  rcases (show i < 10 ∨ i = 10 ∨ 10 < i by omega) with h | rfl | h
  · rw [show dmo i = 3 from if_pos (by omega), show dda i = 21 + i from if_pos (by omega), show dmo (i + 1) = 3 from if_pos (by omega), show dda (i + 1) = 21 + i + 1 from (if_pos (by omega)).trans (by omega)]
    exact Nxt_day b y 3 (21 + i) w hy (by omega) (by omega) (by omega)
  · exact Nxt_month b y 3 31 w hy (by omega) (by omega) (by omega)
  · rw [show dmo i = 4 from if_neg (by omega), show dda i = i - 10 from if_neg (by omega), show dmo (i + 1) = 4 from if_neg (by omega), show dda (i + 1) = i - 10 + 1 from (if_neg (by omega)).trans (by omega)]
    exact Nxt_day b y 4 (i - 10) w hy (by omega) (by omega) (by omega)
theorem model_ok (k y : Int) (w : World) (h : Fit k y) :
    Calls Tryz.prog 11 #[.int .i64 k, .int .i64 y] w fun e w' => e = .returned (.agg #[.int .i64 y, .int .i64 (dmo (easI k y)), .int .i64 (dda (easI k y))]) ∧ Kept w w' := by
  obtain ⟨_, hy1, hy2⟩ := fit_cal k y h
  have hb := moonI_bounds k y
  have hz := day_c k y (moonI k y) h (by omega) (by omega)
  have hq := eqN_bounds k y hy1 hy2
  have KD := Lib.hid (fun w => refToDay_all k y (dmo (moonI k y)) (dda (moonI k y)) w)
  rw [hz.1, hz.2] at KD
  have KO := Lib.hid (fun n w a b => rWOf_any n w a b)
  have KL := Lib.hid (fun w => refLeap_any k y w (by omega) (by omega))
  have KE := Lib.hid (fun w => rELabel_ok k y w h)
  have KB := Lib.hid (fun i w => rBears_of (dmo (i - 13)) (dda (i - 13)) (labN k y) w)
  have KM := Lib.hid (fun i a b => moon_bears k y i a b)
  have KN := Lib.hid (fun i w a b => Nxt_i (lp k y) y i w hy2 a b)
  have e0 : easI k y = moonI k y + 1 + (0 - (eqN k y + moonI k y + 1)) % 7 := rfl
  rw [e0]
  clear h hz e0
  generalize moonI k y = M at *
  generalize eqN k y = q at *
  generalize lp k y = lb at *
  generalize labN k y = lab at *
  have HT : Hid (0 ≤ (0 - (q + M + 1)) % 7 ∧ (0 - (q + M + 1)) % 7 ≤ 6 ∧ (∀ i : Int, 0 ≤ i → i ≤ 6 → ((q + M + 1 + i) % 7 = 0 ↔ i = (0 - (q + M + 1)) % 7))) := (show _ ∧ _ ∧ _ from ⟨by omega, by omega, fun i a b => by omega⟩)
  generalize (0 - (q + M + 1)) % 7 = T at *
  go_enter Tryz.func11, Tryz.ntmps11
  go_wp2_with fail
  obtain ⟨W1, hW1⟩ : ∃ x, x = ((w.alloc (.cells #[.int .i64 0, .int .i64 0, .int .i64 0] 29)).alloc (.cells #[.int .i64 y, .int .i64 3, .int .i64 21] 29)).alloc (.cells #[.int .i64 y, .int .i64 3, .int .i64 8] 29) := ⟨_, rfl⟩
  rw [← hW1]
  have k1 : Kept w W1 := by rw [hW1]; exact (((Kept.refl w).alloc _).alloc _).alloc _
  have R1 : Dblk W1 w.heap.size (.int .i64 0) (.int .i64 0) (.int .i64 0) := by rw [hW1]; exact ((Dblk.new w _ _ _).alloc _).alloc _
  have D1 : Dblk W1 (w.heap.size + 1) (.int .i64 y) (.int .i64 (dmo 0)) (.int .i64 (dda 0)) := by
    rw [hW1]
    have := (Dblk.new (w.alloc (.cells #[.int .i64 0, .int .i64 0, .int .i64 0] 29)) (.int .i64 y) (.int .i64 3) (.int .i64 21)).alloc (.cells #[.int .i64 y, .int .i64 3, .int .i64 8] 29)
    rw [World.size_alloc] at this
    exact this
  have M1 : Dblk W1 (w.heap.size + 1 + 1) (.int .i64 y) (.int .i64 (dmo (0 - 13))) (.int .i64 (dda (0 - 13))) := by
    rw [hW1]
    have := Dblk.new ((w.alloc (.cells #[.int .i64 0, .int .i64 0, .int .i64 0] 29)).alloc (.cells #[.int .i64 y, .int .i64 3, .int .i64 21] 29)) (.int .i64 y) (.int .i64 3) (.int .i64 8)
    rw [World.size_alloc, World.size_alloc] at this
    exact this
  clear hW1
  generalize hR : w.heap.size = R at R1 D1 M1 ⊢
  have HZ := Lib.hid (Nat.le_of_eq hR)
  clear hR
  go_at_call 36
  refine (KL.out _).mono ?_
  rintro e w2 ⟨rfl, rfl⟩
  go_wp2_with fail
  go_at_call 37
  refine (KE.out _).mono ?_
  rintro e w3 ⟨rfl, rfl⟩
  go_wp2_with fail
  go_loopg [] M.toNat (fun g wr => ∃ j : Int, 0 ≤ j ∧ j + g = M ∧ Dblk wr R (.int .i64 0) (.int .i64 0) (.int .i64 0) ∧ Dblk wr (R + 1) (.int .i64 y) (.int .i64 (dmo j)) (.int .i64 (dda j)) ∧ Dblk wr (R + 1 + 1) (.int .i64 y) (.int .i64 (dmo (j - 13))) (.int .i64 (dda (j - 13))) ∧ Kept w wr)
  case atStart => exact ⟨0, by omega, by omega, R1, D1, M1, k1⟩
  case round =>
    obtain ⟨j, j0, j1, HR, HD, HM, hkw⟩ := hrel
    obtain ⟨m1, m2, m3, m4, m5, m6⟩ := HM.cells
    have lM := HM.lt
    go_wp2_with fail
    go_at_call 38
    refine (KB.out j _).mono ?_
    rw [KM.out j (by omega) (by omega)]
    rintro e w2 ⟨rfl, hk2⟩
    have HR2 := HR.kept hk2
    have HD2 := HD.kept hk2
    have HM2 := HM.kept hk2
    have K2 := hkw.trans hk2
    clear HR HD HM hkw hk2 m1 m2 m3 m4 m5 m6 lM
    by_cases hj : j = M
    · rw [decide_eq_true hj]
      subst hj
      obtain ⟨d1, d2, d3, d4, d5, d6⟩ := HD2.cells
      have lD := HD2.lt
      go_wp2_with fail
      go_at_call 40
      refine (KD.out _).mono ?_
      rintro e w3 ⟨rfl, hk3⟩
      have HR3 := HR2.kept hk3
      have HD3 := HD2.kept hk3
      have K3 := K2.trans hk3
      clear HR2 HD2 HM2 K2 hk3 d1 d2 d3 d4 d5 d6 lD
      obtain ⟨d1, d2, d3, d4, d5, d6⟩ := HD3.cells
      have lD := HD3.lt
      go_wp2_with fail
      go_at_call 16
      refine (KO.out _ _ (by omega) (by omega)).mono ?_
      rintro e w4 ⟨rfl, rfl⟩
      go_wp2_with fail
      go_at_call 39
      refine (KN.out j _ (by omega) (by omega)).mono ?_
      rintro e w4 ⟨rfl, hk4⟩
      have HR4 := HR3.kept hk4
      have HD4 := HD3.kept hk4
      have K4 := K3.trans hk4
      clear HR3 HD3 K3 hk4 d1 d2 d3 d4 d5 d6 lD
      obtain ⟨d1, d2, d3, d4, d5, d6⟩ := HD4.cells
      have lD := HD4.lt
      have hv := Lib.hid (show ((q + j) % 7 + 1) % 7 = (q + j + 1 + 0) % 7 by omega)
      go_wp2_with fail
      generalize ((q + j) % 7 + 1) % 7 = v0 at *
      go_loopg [11] T.toNat (fun g v wr => ∃ i : Int, 0 ≤ i ∧ i + g = T ∧ v = .int .i64 ((q + j + 1 + i) % 7) ∧ Dblk wr R (.int .i64 0) (.int .i64 0) (.int .i64 0) ∧ Dblk wr (R + 1) (.int .i64 y) (.int .i64 (dmo (j + 1 + i))) (.int .i64 (dda (j + 1 + i))) ∧ Kept w wr)
      case atStart => exact ⟨0, by omega, by have := HT.out.1; omega, by rw [hv.out], HR4.off3 (by omega) _ _ _, by have := HD4.put3 (.int .i64 y) (.int .i64 (dmo (j + 1))) (.int .i64 (dda (j + 1))); rw [Int.add_zero]; exact this, kept3 K4 (by have := HZ.out; omega) _ _ _⟩
      clear HR4 HD4 K4 d1 d2 d3 d4 d5 d6 lD
      case round =>
        obtain ⟨i, i0, i1, rfl, HR, HD, hkw⟩ := hrel
        have hT2 := HT.out.2.1
        have hz := HT.out.2.2 i i0 (by omega)
        obtain ⟨d1, d2, d3, d4, d5, d6⟩ := HD.cells
        have lD := HD.lt
        by_cases hi : i = T
        · have h0 := hz.2 hi
          clear hz
          have hR0 := HR.kept (Kept.refl _)
          obtain ⟨r1, r2, r3, r4, r5, r6⟩ := HR.cells
          have lR := HR.lt
          rw [h0]
          go_wp2_with fail
          subst hi
          go_wp2
          exact bodyPost_ret (v := .agg #[.int .i64 y, .int .i64 (dmo (j + 1 + i)), .int .i64 (dda (j + 1 + i))]) (by simp [results, Tryz.results11, go_sem, *]) rfl ⟨rfl, kept3 hkw (by have := HZ.out; omega) _ _ _⟩
        · have h0 : ¬ (q + j + 1 + i) % 7 = 0 := fun g => hi (hz.1 g)
          clear hz
          have hb1 : 0 ≤ (q + j + 1 + i) % 7 ∧ (q + j + 1 + i) % 7 ≤ 6 := by omega
          have hg := Lib.hid (show ((q + j + 1 + i) % 7 + 1) % 7 = (q + j + 1 + (i + 1)) % 7 by omega)
          go_wp2_with fail
          go_at_call 39
          refine (KN.out (j + 1 + i) _ (by omega) (by omega)).mono ?_
          rintro e w5 ⟨rfl, hk5⟩
          have HR5 := HR.kept hk5
          have HD5 := HD.kept hk5
          have K5 := hkw.trans hk5
          clear HR HD hkw hk5 d1 d2 d3 d4 d5 d6 lD
          obtain ⟨d1, d2, d3, d4, d5, d6⟩ := HD5.cells
          have lD := HD5.lt
          go_wp2_with fail
          go_roundg (gk - 1)
          case rel =>
            refine ⟨i + 1, by omega, by omega, ?_, HR5.off3 (by omega) _ _ _, ?_, kept3 K5 (by have := HZ.out; omega) _ _ _⟩
            · rw [← hg.out]
            · rw [show j + 1 + (i + 1) = j + 1 + i + 1 by omega]
              exact HD5.put3 _ _ _
          case measure => omega
    · rw [decide_eq_false hj]
      obtain ⟨d1, d2, d3, d4, d5, d6⟩ := HD2.cells
      have lD := HD2.lt
      go_wp2_with fail
      go_at_call 39
      refine (KN.out j _ (by omega) (by omega)).mono ?_
      rintro e w3 ⟨rfl, hk3⟩
      have HR3 := HR2.kept hk3
      have HD3 := HD2.kept hk3
      have HM3 := HM2.kept hk3
      have K3 := K2.trans hk3
      clear HR2 HD2 HM2 K2 hk3 d1 d2 d3 d4 d5 d6 lD
      obtain ⟨d1, d2, d3, d4, d5, d6⟩ := HD3.cells
      have lD := HD3.lt
      obtain ⟨m1, m2, m3, m4, m5, m6⟩ := HM3.cells
      have lM := HM3.lt
      go_wp2_with fail
      go_at_call 39
      refine (KN.out (j - 13) _ (by omega) (by omega)).mono ?_
      rintro e w4 ⟨rfl, hk4⟩
      have HR4 := (HR3.off3 (by omega) _ _ _).kept hk4
      have HD4 := (HD3.put3 _ _ _).kept hk4
      have HM4 := (HM3.off3 (by omega) _ _ _).kept hk4
      have K4 := (kept3 K3 (by have := HZ.out; omega) _ _ _).trans hk4
      clear HR3 HD3 HM3 K3 hk4 d1 d2 d3 d4 d5 d6 lD m1 m2 m3 m4 m5 m6 lM
      obtain ⟨m1, m2, m3, m4, m5, m6⟩ := HM4.cells
      have lM := HM4.lt
      go_wp2_with fail
      go_roundg (gk - 1)
      case rel =>
        refine ⟨j + 1, by omega, by omega, HR4.off3 (by omega) _ _ _, HD4.off3 (by omega) _ _ _, ?_, kept3 K4 (by have := HZ.out; omega) _ _ _⟩
        rw [show j + 1 - 13 = j - 13 + 1 by omega]
        exact HM4.put3 _ _ _
      case measure => omega
end Go.Proofs.YtblaphkaklocfaaGreatDoor

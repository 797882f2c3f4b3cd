/- Contracts: package julian, the date of a number. -/
import Derived.Test.YtdmgnanpjkimlaaDoorJul
set_option linter.unusedSimpArgs false
set_option linter.unusedVariables false
set_option linter.unusedSectionVars false
namespace Go.Proofs.YtdmgnanpjkimlaaDoor
open Go.ChangeShapes Go.WideShapes Go.ChangeAt Go.RowKit
set_option maxHeartbeats 800000

theorem IMod_any (a b : Int) (w : World) (ha : -4611686018427387904 ≤ a) (ha' : a ≤ 4611686018427387904) (hb : 1 ≤ b) (hb' : b ≤ 4611686018427387904) :
    Calls Tryd.prog 70 #[.int .i64 a, .int .i64 b] w fun e w' => e = .returned (.tuple #[.int .i64 (a % b), .bool true]) ∧ w.drew = w' := by
  go_enter Tryd.func70, Tryd.ntmps70
  go_wp2_with (go_at_call 81; refine (split_any _ _ _ (by omega) (by omega) (by omega) (by omega)).mono ?_; rintro e w1 ⟨rfl, rfl⟩)
  go_ret2
  exact ⟨rfl, rfl⟩
theorem JFromDay_no (n : Int) (w : World) (h : n < -1 ∨ 365249999999 ≤ n) :
    Calls Tryd.prog 48 #[.int .i64 n] w fun e w' => e = .returned (.tuple #[.agg #[.int .i64 0, .int .i64 0, .int .i64 0], .int .i64 1]) ∧ Kept w w' := by
  have F1 := fun w => Jfirst_any 1 w (by omega) (by omega)
  have F2 := fun w => Jfirst_any 1000000001 w (by omega) (by omega)
  rw [fst_one, if_pos rfl] at F1
  rw [fst_top, if_pos rfl] at F2
  have K1 := Lib.hid F1
  have K2 := Lib.hid F2
  clear F1 F2
  rcases h with h | h
  · go_enter Tryd.func48, Tryd.ntmps48
    go_wp2_with (first | (go_at_call 67; (with_reducible refine (K1.out _).mono ?_); rintro e w1 ⟨rfl, rfl⟩) | (go_at_call 67; (with_reducible refine (K2.out _).mono ?_); rintro e w1 ⟨rfl, rfl⟩))
    exact bodyPost_ret (v := .tuple #[.agg #[.int .i64 0, .int .i64 0, .int .i64 0], .int .i64 1]) (by simp [results, Tryd.results48, go_sem, *]) rfl ⟨rfl, (by repeat (first | with_reducible exact Kept.refl _ | with_reducible assumption | with_reducible refine Kept.drew ?_ | with_reducible refine Kept.drewN ?_ _ | with_reducible refine Kept.alloc ?_ _ | (with_reducible refine Kept.setCell ?_ (by first | exact Nat.le_refl _ | omega | (simp; done) | (simp; omega)) _) | (with_reducible refine Kept.trans ?_ (by with_reducible assumption))))⟩
  · have h' : -1 ≤ n := by omega
    go_enter Tryd.func48, Tryd.ntmps48
    go_wp2_with (first | (go_at_call 67; (with_reducible refine (K1.out _).mono ?_); rintro e w1 ⟨rfl, rfl⟩) | (go_at_call 67; (with_reducible refine (K2.out _).mono ?_); rintro e w1 ⟨rfl, rfl⟩))
    exact bodyPost_ret (v := .tuple #[.agg #[.int .i64 0, .int .i64 0, .int .i64 0], .int .i64 1]) (by simp [results, Tryd.results48, go_sem, *]) rfl ⟨rfl, (by repeat (first | with_reducible exact Kept.refl _ | with_reducible assumption | with_reducible refine Kept.drew ?_ | with_reducible refine Kept.drewN ?_ _ | with_reducible refine Kept.alloc ?_ _ | (with_reducible refine Kept.setCell ?_ (by first | exact Nat.le_refl _ | omega | (simp; done) | (simp; omega)) _) | (with_reducible refine Kept.trans ?_ (by with_reducible assumption))))⟩
/-- The year by division. -/
theorem yearJ_1 (n y : Int) (h : -1 ≤ n) (h1 : fst 1 y ≤ n) (h2 : n < fst 1 (y + 1)) (r : 3 < (n + 1) % 1461 / 365) : 4 * ((n + 1) / 1461) + 3 + 1 = y := by
  refine year_unique 1 n _ y ?_ ?_ h1 h2
  · unfold fst; simp only [if_true]; omega
  · unfold fst; simp only [if_true]; omega
theorem yearJ_2 (n y : Int) (h : -1 ≤ n) (h1 : fst 1 y ≤ n) (h2 : n < fst 1 (y + 1)) (r : ¬ 3 < (n + 1) % 1461 / 365) : 4 * ((n + 1) / 1461) + (n + 1) % 1461 / 365 + 1 = y := by
  refine year_unique 1 n _ y ?_ ?_ h1 h2
  · unfold fst; simp only [if_true]; omega
  · unfold fst; simp only [if_true]; omega
theorem yearJ (n y : Int) (h : -1 ≤ n) (h1 : fst 1 y ≤ n) (h2 : n < fst 1 (y + 1)) : 4 * ((n + 1) / 1461) + (if 3 < (n + 1) % 1461 / 365 then 3 else (n + 1) % 1461 / 365) + 1 = y := by
  split
  · exact yearJ_1 n y h h1 h2 (by assumption)
  · exact yearJ_2 n y h h1 h2 (by assumption)
theorem JFromDay_ok (n y m d : Int) (w : World) (hT : Tab w) (h : OkD 1 y m d) (e : num 1 y m d = n) :
    Calls Tryd.prog 48 #[.int .i64 n] w fun e w' => e = .returned (.tuple #[.agg #[.int .i64 y, .int .i64 m, .int .i64 d], .int .i64 0]) ∧ Kept w w' := by
  have F1 := fun w => Jfirst_any 1 w (by omega) (by omega)
  have F2 := fun w => Jfirst_any 1000000001 w (by omega) (by omega)
  rw [fst_one, if_pos rfl] at F1
  rw [fst_top, if_pos rfl] at F2
  have K1 := Lib.hid F1
  have K2 := Lib.hid F2
  clear F1 F2
  have hy := num_year 1 y m d h
  have hn := num_bounds 1 y m d h
  rw [fst_one, fst_top, if_pos rfl, if_pos rfl, e] at hn
  rw [e] at hy
  have HY1 := Lib.hid (yearJ_1 n y hn.1 hy.1 hy.2)
  have HY2 := Lib.hid (yearJ_2 n y hn.1 hy.1 hy.2)
  obtain ⟨hn1, hn2⟩ := hn
  obtain ⟨h1, h2, h3, h4, h5, h6⟩ := h
  have KC := Lib.hid (cum_succ (lp 1 y))
  have KM := Lib.hid (cum_mono (lp 1 y))
  have KT := Lib.hid (fun o => (hT.alloc o).drew.drew.drew.drew.drew)
  obtain ⟨hf1, hf2⟩ := fst_bounds 1 y h1 (by omega)
  have hb := mlen_bounds (lp 1 y) m h3 h4
  have hcm := cum_bounds (lp 1 y) m h3 (by omega)
  have HE : Hid (n = fst 1 y + cum (lp 1 y) m + d - 1) := e.symm
  clear e hy hT
  by_cases hr : 3 < (n + 1) % 1461 / 365
  · have HY := Lib.hid (HY1.out hr)
    go_enter Tryd.func48, Tryd.ntmps48
    go_wp2_with fail
    (go_at_call 67; refine (K1.out _).mono ?_; rintro e w1 ⟨rfl, rfl⟩)
    go_wp2_with fail
    (go_at_call 67; refine (K2.out _).mono ?_; rintro e w1 ⟨rfl, rfl⟩)
    go_wp2_with fail
    (go_at_call 69; refine (IDiv_any _ _ _ (by omega) (by omega) (by omega) (by omega)).mono ?_; rintro e w1 ⟨rfl, rfl⟩)
    go_wp2_with fail
    (go_at_call 70; refine (IMod_any _ _ _ (by omega) (by omega) (by omega) (by omega)).mono ?_; rintro e w1 ⟨rfl, rfl⟩)
    go_wp2_with fail
    rw [HY.out]
    clear HY1 HY2 hr HY
    (go_at_call 67; refine (Jfirst_any y _ h1 (by omega)).mono ?_; rintro e w1 ⟨rfl, rfl⟩)
    rw [HE.out, show fst 1 y + cum (lp 1 y) m + d - 1 = fst 1 y + (cum (lp 1 y) m + d - 1) from by omega]
    go_wp2_with fail
    clear hn1 hn2
    go_loop [9, 10] (fun t i => ∃ k : Int, 1 ≤ k ∧ k ≤ m ∧ i = .int .i64 k ∧ t = .int .i64 (cum (lp 1 y) m + d - 1 - cum (lp 1 y) k)) (fun t _ => (intOf t).toNat)
    case atStart => exact ⟨1, by omega, by omega, rfl, by rw [cum_1]; go_num⟩
    case round =>
      obtain ⟨k, hk1, hk2, rfl, rfl⟩ := hrel
      have cb := cum_bounds (lp 1 y) k hk1 (by omega)
      have mb := mlen_bounds (lp 1 y) k hk1 (by omega)
      by_cases hlt : k < m
      · have mm := KM.out k m hk1 hlt (by omega)
        go_wp2_with (go_at_call 68; refine (JLength_any _ _ _ (KT.out _)).mono ?_; rintro e w1 ⟨rfl, rfl⟩)
        go_round
        case rel => exact ⟨k + 1, by omega, by omega, rfl, by rw [KC.out k hk1 (by omega)]; go_num⟩
        case measure => simp [intOf]; omega
      · have hk : k = m := by omega
        subst hk
        clear hlt hk1 hk2
        go_wp2_with (go_at_call 68; refine (JLength_any _ _ _ (KT.out _)).mono ?_; rintro e w1 ⟨rfl, rfl⟩)
        exact bodyPost_ret (v := .tuple #[.agg #[.int .i64 y, .int .i64 k, .int .i64 (cum (lp 1 y) k + d - 1 - cum (lp 1 y) k + 1)], .int .i64 0]) (by simp [results, Tryd.results48, go_sem, *]) rfl ⟨by rw [show cum (lp 1 y) k + d - 1 - cum (lp 1 y) k + 1 = d from by omega], (by repeat (first | with_reducible exact Kept.refl _ | with_reducible assumption | with_reducible refine Kept.drew ?_ | with_reducible refine Kept.drewN ?_ _ | with_reducible refine Kept.alloc ?_ _ | (with_reducible refine Kept.setCell ?_ (by first | exact Nat.le_refl _ | omega | (simp; done) | (simp; omega)) _) | (with_reducible refine Kept.trans ?_ (by with_reducible assumption))))⟩
  · have HY := Lib.hid (HY2.out hr)
    go_enter Tryd.func48, Tryd.ntmps48
    go_wp2_with fail
    (go_at_call 67; refine (K1.out _).mono ?_; rintro e w1 ⟨rfl, rfl⟩)
    go_wp2_with fail
    (go_at_call 67; refine (K2.out _).mono ?_; rintro e w1 ⟨rfl, rfl⟩)
    go_wp2_with fail
    (go_at_call 69; refine (IDiv_any _ _ _ (by omega) (by omega) (by omega) (by omega)).mono ?_; rintro e w1 ⟨rfl, rfl⟩)
    go_wp2_with fail
    (go_at_call 70; refine (IMod_any _ _ _ (by omega) (by omega) (by omega) (by omega)).mono ?_; rintro e w1 ⟨rfl, rfl⟩)
    go_wp2_with fail
    rw [HY.out]
    clear HY1 HY2 hr HY
    (go_at_call 67; refine (Jfirst_any y _ h1 (by omega)).mono ?_; rintro e w1 ⟨rfl, rfl⟩)
    rw [HE.out, show fst 1 y + cum (lp 1 y) m + d - 1 = fst 1 y + (cum (lp 1 y) m + d - 1) from by omega]
    go_wp2_with fail
    clear hn1 hn2
    go_loop [9, 10] (fun t i => ∃ k : Int, 1 ≤ k ∧ k ≤ m ∧ i = .int .i64 k ∧ t = .int .i64 (cum (lp 1 y) m + d - 1 - cum (lp 1 y) k)) (fun t _ => (intOf t).toNat)
    case atStart => exact ⟨1, by omega, by omega, rfl, by rw [cum_1]; go_num⟩
    case round =>
      obtain ⟨k, hk1, hk2, rfl, rfl⟩ := hrel
      have cb := cum_bounds (lp 1 y) k hk1 (by omega)
      have mb := mlen_bounds (lp 1 y) k hk1 (by omega)
      by_cases hlt : k < m
      · have mm := KM.out k m hk1 hlt (by omega)
        go_wp2_with (go_at_call 68; refine (JLength_any _ _ _ (KT.out _)).mono ?_; rintro e w1 ⟨rfl, rfl⟩)
        go_round
        case rel => exact ⟨k + 1, by omega, by omega, rfl, by rw [KC.out k hk1 (by omega)]; go_num⟩
        case measure => simp [intOf]; omega
      · have hk : k = m := by omega
        subst hk
        clear hlt hk1 hk2
        go_wp2_with (go_at_call 68; refine (JLength_any _ _ _ (KT.out _)).mono ?_; rintro e w1 ⟨rfl, rfl⟩)
        exact bodyPost_ret (v := .tuple #[.agg #[.int .i64 y, .int .i64 k, .int .i64 (cum (lp 1 y) k + d - 1 - cum (lp 1 y) k + 1)], .int .i64 0]) (by simp [results, Tryd.results48, go_sem, *]) rfl ⟨by rw [show cum (lp 1 y) k + d - 1 - cum (lp 1 y) k + 1 = d from by omega], (by repeat (first | with_reducible exact Kept.refl _ | with_reducible assumption | with_reducible refine Kept.drew ?_ | with_reducible refine Kept.drewN ?_ _ | with_reducible refine Kept.alloc ?_ _ | (with_reducible refine Kept.setCell ?_ (by first | exact Nat.le_refl _ | omega | (simp; done) | (simp; omega)) _) | (with_reducible refine Kept.trans ?_ (by with_reducible assumption))))⟩
end Go.Proofs.YtdmgnanpjkimlaaDoor

/- Contracts: package civil and its reference: Convert, OfYear, YearLength, Shift, Weekday. -/
import Derived.Test.YtcfgiboknkkheaaDoorCiv
set_option linter.unusedSimpArgs false
set_option linter.unusedVariables false
set_option linter.unusedSectionVars false
namespace Go.Proofs.YtcfgiboknkkheaaDoor
open Go.ChangeShapes Go.WideShapes Go.ChangeAt Go.RowKit
set_option maxHeartbeats 800000

theorem CToDay_ok (c y m d : Int) (w : World) (hT : Tab w) (h : cE c y m d = 0) :
    Calls Tryd.prog 31 #[.int .i64 c, .agg #[.int .i64 y, .int .i64 m, .int .i64 d]] w fun e w' => e = .returned (.tuple #[.int .i64 (cN c y m d), .int .i64 0]) ∧ Kept w w' := by
  have := CToDay_all c y m d w hT
  rwa [h] at this
theorem refToDay_ok (c y m d : Int) (w : World) (h : cE c y m d = 0) :
    Calls Tryd.prog 26 #[.int .i64 c, .agg #[.int .i64 y, .int .i64 m, .int .i64 d]] w fun e w' => e = .returned (.tuple #[.int .i64 (cN c y m d), .int .i64 0]) ∧ Kept w w' := by
  have := refToDay_all c y m d w
  rwa [h] at this
theorem cE_pos (c y m d : Int) (h : cE c y m d ≠ 0) : 1 ≤ cE c y m d := by
  rcases c_cases c y m d with ⟨_, _, _, h'⟩ | ⟨_, h', _⟩ <;> omega
theorem of_any (c : Int) (w : World) (h : IsCal c) : ∃ v1 v2 v3 v4, Calls Tryd.prog 47 #[.int .i64 c] w fun e w' => e = .returned (.tuple #[.agg #[.func (.func v1) #[] #[], .func (.func v2) #[] #[], .func (.func v3) #[] #[], .func (.func v4) #[] #[]], .int .i64 0]) ∧ Kept w w' := by
  rcases h with rfl | rfl
  · exact ⟨_, _, _, _, of_1 w⟩
  · exact ⟨_, _, _, _, of_2 w⟩

theorem Convert_all (y m d a b x1 x2 x3 e : Int) (w : World) (hT : Tab w) (h : CvRel y m d a b x1 x2 x3 e) :
    Calls Tryd.prog 17 #[.agg #[.int .i64 y, .int .i64 m, .int .i64 d], .int .i64 a, .int .i64 b] w fun e' w' => e' = .returned (.tuple #[.agg #[.int .i64 x1, .int .i64 x2, .int .i64 x3], .int .i64 e]) ∧ Kept w w' := by
  have KT := Lib.hid (fun w' (k : Kept w w') => hT.kept k)
  clear hT
  rcases h with ⟨h, rfl, rfl, rfl, rfl⟩ | ⟨h, hne, rfl, rfl, rfl, rfl⟩ | ⟨h, hz, hf⟩
  · have h' : b < 1 ∨ 2 < b := by unfold IsCal at h; omega
    clear h
    go_enter Tryd.func17, Tryd.ntmps17
    go_wp2_with fail
    (go_at_call 47; refine (of_no _ _ h').mono ?_; rintro e w1 ⟨rfl, hk1⟩)
    have hB1_1 := hk1
    obtain ⟨hc1_1, hf1_1⟩ := kept_cells hB1_1
    have hz1_0_1 : w.heap.size < w1.heap.size := by have := hB1_1.size; simp at this; omega
    have hz1_1_1 : w.heap.size + 1 < w1.heap.size := by have := hB1_1.size; simp at this; omega
    go_wp2
    exact bodyPost_ret (v := .tuple #[.agg #[.int .i64 0, .int .i64 0, .int .i64 0], .int .i64 3]) (by simp [results, Tryd.results17, go_sem, *]) rfl ⟨rfl, (by repeat (first | with_reducible exact Kept.refl _ | with_reducible assumption | with_reducible refine Kept.drew ?_ | with_reducible refine Kept.drewN ?_ _ | with_reducible refine Kept.alloc ?_ _ | (with_reducible refine Kept.setCell ?_ (by first | exact Nat.le_refl _ | omega | (simp; done) | (simp; omega)) _) | (with_reducible refine Kept.trans ?_ (by with_reducible assumption))))⟩
  · have hp := cE_pos a y m d hne
    have HN : Hid (cN a y m d = 0) := by
      rcases c_cases a y m d with ⟨_, _, _, h'⟩ | ⟨h', _⟩
      · omega
      · exact h'
    clear hne
    rcases h with rfl | rfl
    · go_enter Tryd.func17, Tryd.ntmps17
      go_wp2_with fail
      (go_at_call 47; refine (of_1 _).mono ?_; rintro e w1 ⟨rfl, hk1⟩)
      have hB1_1 := hk1
      obtain ⟨hc1_1, hf1_1⟩ := kept_cells hB1_1
      have hz1_0_1 : w.heap.size < w1.heap.size := by have := hB1_1.size; simp at this; omega
      have hz1_1_1 : w.heap.size + 1 < w1.heap.size := by have := hB1_1.size; simp at this; omega
      go_wp2_with fail
      (go_at_call 31; refine (CToDay_all _ _ _ _ _ (KT.out _ (by repeat (first | with_reducible exact Kept.refl _ | with_reducible assumption | with_reducible refine Kept.drew ?_ | with_reducible refine Kept.drewN ?_ _ | with_reducible refine Kept.alloc ?_ _ | (with_reducible refine Kept.setCell ?_ (by first | exact Nat.le_refl _ | omega | (simp; done) | (simp; omega)) _) | (with_reducible refine Kept.trans ?_ (by with_reducible assumption)))))).mono ?_; rintro e w2 ⟨rfl, hk2⟩)
      have hB1_2 := Kept.trans (Kept.alloc hB1_1 _) hk2
      have hB2_2 := hk2
      obtain ⟨hc1_2, hf1_2⟩ := kept_cells hB1_2
      have hz1_0_2 : w.heap.size < w2.heap.size := by have := hB1_2.size; simp at this; omega
      have hz1_1_2 : w.heap.size + 1 < w2.heap.size := by have := hB1_2.size; simp at this; omega
      obtain ⟨hc2_2, hf2_2⟩ := kept_cells hB2_2
      have hz2_0_2 : w1.heap.size < w2.heap.size := by have := hB2_2.size; simp at this; omega
      go_wp2
      exact bodyPost_ret (v := .tuple #[.agg #[.int .i64 0, .int .i64 0, .int .i64 0], .int .i64 (cE a y m d)]) (by simp [results, Tryd.results17, go_sem, *]) rfl ⟨rfl, (by repeat (first | with_reducible exact Kept.refl _ | with_reducible assumption | with_reducible refine Kept.drew ?_ | with_reducible refine Kept.drewN ?_ _ | with_reducible refine Kept.alloc ?_ _ | (with_reducible refine Kept.setCell ?_ (by first | exact Nat.le_refl _ | omega | (simp; done) | (simp; omega)) _) | (with_reducible refine Kept.trans ?_ (by with_reducible assumption))))⟩
    · go_enter Tryd.func17, Tryd.ntmps17
      go_wp2_with fail
      (go_at_call 47; refine (of_2 _).mono ?_; rintro e w1 ⟨rfl, hk1⟩)
      have hB1_1 := hk1
      obtain ⟨hc1_1, hf1_1⟩ := kept_cells hB1_1
      have hz1_0_1 : w.heap.size < w1.heap.size := by have := hB1_1.size; simp at this; omega
      have hz1_1_1 : w.heap.size + 1 < w1.heap.size := by have := hB1_1.size; simp at this; omega
      go_wp2_with fail
      (go_at_call 31; refine (CToDay_all _ _ _ _ _ (KT.out _ (by repeat (first | with_reducible exact Kept.refl _ | with_reducible assumption | with_reducible refine Kept.drew ?_ | with_reducible refine Kept.drewN ?_ _ | with_reducible refine Kept.alloc ?_ _ | (with_reducible refine Kept.setCell ?_ (by first | exact Nat.le_refl _ | omega | (simp; done) | (simp; omega)) _) | (with_reducible refine Kept.trans ?_ (by with_reducible assumption)))))).mono ?_; rintro e w2 ⟨rfl, hk2⟩)
      have hB1_2 := Kept.trans (Kept.alloc hB1_1 _) hk2
      have hB2_2 := hk2
      obtain ⟨hc1_2, hf1_2⟩ := kept_cells hB1_2
      have hz1_0_2 : w.heap.size < w2.heap.size := by have := hB1_2.size; simp at this; omega
      have hz1_1_2 : w.heap.size + 1 < w2.heap.size := by have := hB1_2.size; simp at this; omega
      obtain ⟨hc2_2, hf2_2⟩ := kept_cells hB2_2
      have hz2_0_2 : w1.heap.size < w2.heap.size := by have := hB2_2.size; simp at this; omega
      go_wp2
      exact bodyPost_ret (v := .tuple #[.agg #[.int .i64 0, .int .i64 0, .int .i64 0], .int .i64 (cE a y m d)]) (by simp [results, Tryd.results17, go_sem, *]) rfl ⟨rfl, (by repeat (first | with_reducible exact Kept.refl _ | with_reducible assumption | with_reducible refine Kept.drew ?_ | with_reducible refine Kept.drewN ?_ _ | with_reducible refine Kept.alloc ?_ _ | (with_reducible refine Kept.setCell ?_ (by first | exact Nat.le_refl _ | omega | (simp; done) | (simp; omega)) _) | (with_reducible refine Kept.trans ?_ (by with_reducible assumption))))⟩
  · have HZ := Lib.hid hz
    have HF := Lib.hid hf
    clear hz hf
    rcases h with rfl | rfl
    · go_enter Tryd.func17, Tryd.ntmps17
      go_wp2_with fail
      (go_at_call 47; refine (of_1 _).mono ?_; rintro e w1 ⟨rfl, hk1⟩)
      have hB1_1 := hk1
      obtain ⟨hc1_1, hf1_1⟩ := kept_cells hB1_1
      have hz1_0_1 : w.heap.size < w1.heap.size := by have := hB1_1.size; simp at this; omega
      have hz1_1_1 : w.heap.size + 1 < w1.heap.size := by have := hB1_1.size; simp at this; omega
      go_wp2_with fail
      (go_at_call 31; refine (CToDay_ok _ _ _ _ _ (KT.out _ (by repeat (first | with_reducible exact Kept.refl _ | with_reducible assumption | with_reducible refine Kept.drew ?_ | with_reducible refine Kept.drewN ?_ _ | with_reducible refine Kept.alloc ?_ _ | (with_reducible refine Kept.setCell ?_ (by first | exact Nat.le_refl _ | omega | (simp; done) | (simp; omega)) _) | (with_reducible refine Kept.trans ?_ (by with_reducible assumption))))) HZ.out).mono ?_; rintro e w2 ⟨rfl, hk2⟩)
      have hB1_2 := Kept.trans (Kept.alloc hB1_1 _) hk2
      have hB2_2 := hk2
      obtain ⟨hc1_2, hf1_2⟩ := kept_cells hB1_2
      have hz1_0_2 : w.heap.size < w2.heap.size := by have := hB1_2.size; simp at this; omega
      have hz1_1_2 : w.heap.size + 1 < w2.heap.size := by have := hB1_2.size; simp at this; omega
      obtain ⟨hc2_2, hf2_2⟩ := kept_cells hB2_2
      have hz2_0_2 : w1.heap.size < w2.heap.size := by have := hB2_2.size; simp at this; omega
      go_wp2_with fail
      (go_at_call 41; refine (CFromDay_all _ _ _ _ _ _ _ (KT.out _ (by repeat (first | with_reducible exact Kept.refl _ | with_reducible assumption | with_reducible refine Kept.drew ?_ | with_reducible refine Kept.drewN ?_ _ | with_reducible refine Kept.alloc ?_ _ | (with_reducible refine Kept.setCell ?_ (by first | exact Nat.le_refl _ | omega | (simp; done) | (simp; omega)) _) | (with_reducible refine Kept.trans ?_ (by with_reducible assumption))))) HF.out).mono ?_; rintro e w3 ⟨rfl, hk3⟩)
      have hB1_3 := Kept.trans hB1_2 hk3
      have hB2_3 := Kept.trans hB2_2 hk3
      obtain ⟨hc1_3, hf1_3⟩ := kept_cells hB1_3
      have hz1_0_3 : w.heap.size < w3.heap.size := by have := hB1_3.size; simp at this; omega
      have hz1_1_3 : w.heap.size + 1 < w3.heap.size := by have := hB1_3.size; simp at this; omega
      obtain ⟨hc2_3, hf2_3⟩ := kept_cells hB2_3
      have hz2_0_3 : w1.heap.size < w3.heap.size := by have := hB2_3.size; simp at this; omega
      go_wp2
      exact bodyPost_ret (v := .tuple #[.agg #[.int .i64 x1, .int .i64 x2, .int .i64 x3], .int .i64 e]) (by simp [results, Tryd.results17, go_sem, *]) rfl ⟨rfl, (by repeat (first | with_reducible exact Kept.refl _ | with_reducible assumption | with_reducible refine Kept.drew ?_ | with_reducible refine Kept.drewN ?_ _ | with_reducible refine Kept.alloc ?_ _ | (with_reducible refine Kept.setCell ?_ (by first | exact Nat.le_refl _ | omega | (simp; done) | (simp; omega)) _) | (with_reducible refine Kept.trans ?_ (by with_reducible assumption))))⟩
    · go_enter Tryd.func17, Tryd.ntmps17
      go_wp2_with fail
      (go_at_call 47; refine (of_2 _).mono ?_; rintro e w1 ⟨rfl, hk1⟩)
      have hB1_1 := hk1
      obtain ⟨hc1_1, hf1_1⟩ := kept_cells hB1_1
      have hz1_0_1 : w.heap.size < w1.heap.size := by have := hB1_1.size; simp at this; omega
      have hz1_1_1 : w.heap.size + 1 < w1.heap.size := by have := hB1_1.size; simp at this; omega
      go_wp2_with fail
      (go_at_call 31; refine (CToDay_ok _ _ _ _ _ (KT.out _ (by repeat (first | with_reducible exact Kept.refl _ | with_reducible assumption | with_reducible refine Kept.drew ?_ | with_reducible refine Kept.drewN ?_ _ | with_reducible refine Kept.alloc ?_ _ | (with_reducible refine Kept.setCell ?_ (by first | exact Nat.le_refl _ | omega | (simp; done) | (simp; omega)) _) | (with_reducible refine Kept.trans ?_ (by with_reducible assumption))))) HZ.out).mono ?_; rintro e w2 ⟨rfl, hk2⟩)
      have hB1_2 := Kept.trans (Kept.alloc hB1_1 _) hk2
      have hB2_2 := hk2
      obtain ⟨hc1_2, hf1_2⟩ := kept_cells hB1_2
      have hz1_0_2 : w.heap.size < w2.heap.size := by have := hB1_2.size; simp at this; omega
      have hz1_1_2 : w.heap.size + 1 < w2.heap.size := by have := hB1_2.size; simp at this; omega
      obtain ⟨hc2_2, hf2_2⟩ := kept_cells hB2_2
      have hz2_0_2 : w1.heap.size < w2.heap.size := by have := hB2_2.size; simp at this; omega
      go_wp2_with fail
      (go_at_call 41; refine (CFromDay_all _ _ _ _ _ _ _ (KT.out _ (by repeat (first | with_reducible exact Kept.refl _ | with_reducible assumption | with_reducible refine Kept.drew ?_ | with_reducible refine Kept.drewN ?_ _ | with_reducible refine Kept.alloc ?_ _ | (with_reducible refine Kept.setCell ?_ (by first | exact Nat.le_refl _ | omega | (simp; done) | (simp; omega)) _) | (with_reducible refine Kept.trans ?_ (by with_reducible assumption))))) HF.out).mono ?_; rintro e w3 ⟨rfl, hk3⟩)
      have hB1_3 := Kept.trans hB1_2 hk3
      have hB2_3 := Kept.trans hB2_2 hk3
      obtain ⟨hc1_3, hf1_3⟩ := kept_cells hB1_3
      have hz1_0_3 : w.heap.size < w3.heap.size := by have := hB1_3.size; simp at this; omega
      have hz1_1_3 : w.heap.size + 1 < w3.heap.size := by have := hB1_3.size; simp at this; omega
      obtain ⟨hc2_3, hf2_3⟩ := kept_cells hB2_3
      have hz2_0_3 : w1.heap.size < w3.heap.size := by have := hB2_3.size; simp at this; omega
      go_wp2
      exact bodyPost_ret (v := .tuple #[.agg #[.int .i64 x1, .int .i64 x2, .int .i64 x3], .int .i64 e]) (by simp [results, Tryd.results17, go_sem, *]) rfl ⟨rfl, (by repeat (first | with_reducible exact Kept.refl _ | with_reducible assumption | with_reducible refine Kept.drew ?_ | with_reducible refine Kept.drewN ?_ _ | with_reducible refine Kept.alloc ?_ _ | (with_reducible refine Kept.setCell ?_ (by first | exact Nat.le_refl _ | omega | (simp; done) | (simp; omega)) _) | (with_reducible refine Kept.trans ?_ (by with_reducible assumption))))⟩

theorem YearLength_all (c y : Int) (w : World) (hT : Tab w) :
    Calls Tryd.prog 16 #[.int .i64 c, .int .i64 y] w fun e' w' => e' = .returned (.tuple #[.int .i64 (ylN c y), .int .i64 (ylE c y)]) ∧ Kept w w' := by
  clear hT
  rcases yl_cases c y with ⟨h, e1, e2⟩ | ⟨h, h', e1, e2⟩ | ⟨h, h1, h2, e1, e2⟩
  · rw [e1, e2]
    have h' : c < 1 ∨ 2 < c := by unfold IsCal at h; omega
    clear h e1 e2
    go_enter Tryd.func16, Tryd.ntmps16
    go_wp2_with fail
    (go_at_call 47; refine (of_no _ _ h').mono ?_; rintro e w1 ⟨rfl, hk1⟩)
    go_wp2
    go_ret2
    exact ⟨rfl, (by repeat (first | with_reducible exact Kept.refl _ | with_reducible assumption | with_reducible refine Kept.drew ?_ | with_reducible refine Kept.drewN ?_ _ | with_reducible refine Kept.alloc ?_ _ | (with_reducible refine Kept.setCell ?_ (by first | exact Nat.le_refl _ | omega | (simp; done) | (simp; omega)) _) | (with_reducible refine Kept.trans ?_ (by with_reducible assumption))))⟩
  · rw [e1, e2]
    clear e1 e2
    rcases h with rfl | rfl
    · go_enter Tryd.func16, Tryd.ntmps16
      go_wp2_with fail
      (go_at_call 47; refine (of_1 _).mono ?_; rintro e w1 ⟨rfl, hk1⟩)
      go_wp2_with fail
      (go_at_call 65; refine (JFirst_no _ _ h').mono ?_; rintro e w1 ⟨rfl, rfl⟩)
      go_wp2
      go_ret2
      exact ⟨rfl, (by repeat (first | with_reducible exact Kept.refl _ | with_reducible assumption | with_reducible refine Kept.drew ?_ | with_reducible refine Kept.drewN ?_ _ | with_reducible refine Kept.alloc ?_ _ | (with_reducible refine Kept.setCell ?_ (by first | exact Nat.le_refl _ | omega | (simp; done) | (simp; omega)) _) | (with_reducible refine Kept.trans ?_ (by with_reducible assumption))))⟩
    · go_enter Tryd.func16, Tryd.ntmps16
      go_wp2_with fail
      (go_at_call 47; refine (of_2 _).mono ?_; rintro e w1 ⟨rfl, hk1⟩)
      go_wp2_with fail
      (go_at_call 69; refine (First_no _ _ h').mono ?_; rintro e w1 ⟨rfl, rfl⟩)
      go_wp2
      go_ret2
      exact ⟨rfl, (by repeat (first | with_reducible exact Kept.refl _ | with_reducible assumption | with_reducible refine Kept.drew ?_ | with_reducible refine Kept.drewN ?_ _ | with_reducible refine Kept.alloc ?_ _ | (with_reducible refine Kept.setCell ?_ (by first | exact Nat.le_refl _ | omega | (simp; done) | (simp; omega)) _) | (with_reducible refine Kept.trans ?_ (by with_reducible assumption))))⟩
  · rw [e1, e2]
    clear e1 e2
    rcases h with rfl | rfl
    · have KL := Lib.hid (fun w => JLeap_any y w)
      cases hl : lp 1 y <;> rw [hl] at KL <;> clear hl
      all_goals
        go_enter Tryd.func16, Tryd.ntmps16
        go_wp2_with fail
        (go_at_call 47; refine (of_1 _).mono ?_; rintro e w1 ⟨rfl, hk1⟩)
        go_wp2_with fail
        (go_at_call 65; refine (JFirst_ok _ _ h1 h2).mono ?_; rintro e w1 ⟨rfl, rfl⟩)
        go_wp2_with fail
        (go_at_call 66; refine (KL.out _).mono ?_; rintro e w1 ⟨rfl, rfl⟩)
        go_wp2
        go_ret2
        exact ⟨rfl, (by repeat (first | with_reducible exact Kept.refl _ | with_reducible assumption | with_reducible refine Kept.drew ?_ | with_reducible refine Kept.drewN ?_ _ | with_reducible refine Kept.alloc ?_ _ | (with_reducible refine Kept.setCell ?_ (by first | exact Nat.le_refl _ | omega | (simp; done) | (simp; omega)) _) | (with_reducible refine Kept.trans ?_ (by with_reducible assumption))))⟩
    · have KL := Lib.hid (fun w => Leap_any y w)
      cases hl : lp 2 y <;> rw [hl] at KL <;> clear hl
      all_goals
        go_enter Tryd.func16, Tryd.ntmps16
        go_wp2_with fail
        (go_at_call 47; refine (of_2 _).mono ?_; rintro e w1 ⟨rfl, hk1⟩)
        go_wp2_with fail
        (go_at_call 69; refine (First_ok _ _ h1 h2).mono ?_; rintro e w1 ⟨rfl, rfl⟩)
        go_wp2_with fail
        (go_at_call 70; refine (KL.out _).mono ?_; rintro e w1 ⟨rfl, rfl⟩)
        go_wp2
        go_ret2
        exact ⟨rfl, (by repeat (first | with_reducible exact Kept.refl _ | with_reducible assumption | with_reducible refine Kept.drew ?_ | with_reducible refine Kept.drewN ?_ _ | with_reducible refine Kept.alloc ?_ _ | (with_reducible refine Kept.setCell ?_ (by first | exact Nat.le_refl _ | omega | (simp; done) | (simp; omega)) _) | (with_reducible refine Kept.trans ?_ (by with_reducible assumption))))⟩

theorem refLeap_any (c y : Int) (w : World) (h : -9223372036854775808 ≤ y) (h' : y ≤ 9223372036854775807) :
    Calls Tryd.prog 21 #[.int .i64 c, .int .i64 y] w fun e w' => e = .returned (.bool (lp c y)) ∧ w = w' := by
  by_cases hc : c = 1
  · subst hc
    go_enter Tryd.func21, Tryd.ntmps21
    go_wp2_with (go_at_call 49; refine (jLeap_any _ _ h h').mono ?_; rintro e w1 ⟨rfl, rfl⟩)
    go_ret
    exact ⟨rfl, rfl⟩
  · have HE := Lib.hid (show lp c y = lp 2 y from by unfold lp; simp [hc])
    have h1 : (c == 1) = false := by simpa using hc
    clear hc
    go_enter Tryd.func21, Tryd.ntmps21
    go_wp2_with (go_at_call 50; refine (rLeap_any _ _ h h').mono ?_; rintro e w1 ⟨rfl, rfl⟩)
    go_ret
    exact ⟨by rw [HE.out]; rfl, rfl⟩
theorem refYearLength_all (c y : Int) (w : World) :
    Calls Tryd.prog 45 #[.int .i64 c, .int .i64 y] w fun e' w' => e' = .returned (.tuple #[.int .i64 (ylN c y), .int .i64 (ylE c y)]) ∧ w = w' := by
  rcases yl_cases c y with ⟨h, e1, e2⟩ | ⟨h, h', e1, e2⟩ | ⟨h, h1, h2, e1, e2⟩
  · rw [e1, e2]
    have h' : c < 1 ∨ 2 < c := by unfold IsCal at h; omega
    clear h e1 e2
    rcases h' with h' | h'
    all_goals
      go_enter Tryd.func45, Tryd.ntmps45
      go_wp2
      go_ret2
      exact ⟨rfl, rfl⟩
  · rw [e1, e2]
    have hc : 1 ≤ c ∧ c ≤ 2 := by unfold IsCal at h; omega
    obtain ⟨hc1, hc2⟩ := hc
    clear e1 e2 h
    go_enter Tryd.func45, Tryd.ntmps45
    go_wp2_with (go_at_call 30; refine (In_no _ _ h').mono ?_; rintro e w1 ⟨rfl, rfl⟩)
    go_ret2
    exact ⟨rfl, rfl⟩
  · rw [e1, e2]
    have hc : 1 ≤ c ∧ c ≤ 2 := by unfold IsCal at h; omega
    obtain ⟨hc1, hc2⟩ := hc
    clear e1 e2 h
    have KL := Lib.hid (fun w => refLeap_any c y w (by omega) (by omega))
    cases hl : lp c y <;> rw [hl] at KL <;> clear hl
    all_goals
      go_enter Tryd.func45, Tryd.ntmps45
      go_wp2_with (first | (go_at_call 30; refine (In_yes _ _ h1 h2).mono ?_; rintro e w1 ⟨rfl, rfl⟩) | (go_at_call 21; refine (KL.out _).mono ?_; rintro e w1 ⟨rfl, rfl⟩))
      go_ret2
      exact ⟨rfl, rfl⟩
theorem refConvert_all (y m d a b x1 x2 x3 e : Int) (w : World) (h : CvRel y m d a b x1 x2 x3 e) (ha : IsCal a ∨ ¬ IsCal a) :
    Calls Tryd.prog 43 #[.agg #[.int .i64 y, .int .i64 m, .int .i64 d], .int .i64 a, .int .i64 b] w fun e' w' => e' = .returned (.tuple #[.agg #[.int .i64 x1, .int .i64 x2, .int .i64 x3], .int .i64 e]) ∧ Kept w w' := by
  rcases ha with ha | ha
  · have ha' : 1 ≤ a ∧ a ≤ 2 := by unfold IsCal at ha; omega
    obtain ⟨ha1, ha2⟩ := ha'
    clear ha
    rcases h with ⟨h, rfl, rfl, rfl, rfl⟩ | ⟨h, hne, rfl, rfl, rfl, rfl⟩ | ⟨h, hz, hf⟩
    · have h' : b < 1 ∨ 2 < b := by unfold IsCal at h; omega
      clear h
      rcases h' with h' | h'
      all_goals
        go_enter Tryd.func43, Tryd.ntmps43
        go_wp2
        exact bodyPost_ret (v := .tuple #[.agg #[.int .i64 0, .int .i64 0, .int .i64 0], .int .i64 3]) (by simp [results, Tryd.results43, go_sem, *]) rfl ⟨rfl, (by repeat (first | with_reducible exact Kept.refl _ | with_reducible assumption | with_reducible refine Kept.drew ?_ | with_reducible refine Kept.drewN ?_ _ | with_reducible refine Kept.alloc ?_ _ | (with_reducible refine Kept.setCell ?_ (by first | exact Nat.le_refl _ | omega | (simp; done) | (simp; omega)) _) | (with_reducible refine Kept.trans ?_ (by with_reducible assumption))))⟩
    · have hp := cE_pos a y m d hne
      have hb' : 1 ≤ b ∧ b ≤ 2 := by unfold IsCal at h; omega
      obtain ⟨hb1, hb2⟩ := hb'
      clear hne h
      go_enter Tryd.func43, Tryd.ntmps43
      go_wp2_with fail
      (go_at_call 26; refine (refToDay_all _ _ _ _ _).mono ?_; rintro e w1 ⟨rfl, hk1⟩)
      have hB1_1 := hk1
      obtain ⟨hc1_1, hf1_1⟩ := kept_cells hB1_1
      have hz1_0_1 : w.heap.size < w1.heap.size := by have := hB1_1.size; simp at this; omega
      have hz1_1_1 : w.heap.size + 1 < w1.heap.size := by have := hB1_1.size; simp at this; omega
      go_wp2
      exact bodyPost_ret (v := .tuple #[.agg #[.int .i64 0, .int .i64 0, .int .i64 0], .int .i64 (cE a y m d)]) (by simp [results, Tryd.results43, go_sem, *]) rfl ⟨rfl, (by repeat (first | with_reducible exact Kept.refl _ | with_reducible assumption | with_reducible refine Kept.drew ?_ | with_reducible refine Kept.drewN ?_ _ | with_reducible refine Kept.alloc ?_ _ | (with_reducible refine Kept.setCell ?_ (by first | exact Nat.le_refl _ | omega | (simp; done) | (simp; omega)) _) | (with_reducible refine Kept.trans ?_ (by with_reducible assumption))))⟩
    · have hb' : 1 ≤ b ∧ b ≤ 2 := by unfold IsCal at h; omega
      obtain ⟨hb1, hb2⟩ := hb'
      have HZ := Lib.hid hz
      have HF := Lib.hid hf
      clear hz hf h
      go_enter Tryd.func43, Tryd.ntmps43
      go_wp2_with fail
      (go_at_call 26; refine (refToDay_ok _ _ _ _ _ HZ.out).mono ?_; rintro e w1 ⟨rfl, hk1⟩)
      have hB1_1 := hk1
      obtain ⟨hc1_1, hf1_1⟩ := kept_cells hB1_1
      have hz1_0_1 : w.heap.size < w1.heap.size := by have := hB1_1.size; simp at this; omega
      have hz1_1_1 : w.heap.size + 1 < w1.heap.size := by have := hB1_1.size; simp at this; omega
      go_wp2_with fail
      (go_at_call 42; refine (refFromDay_all _ _ _ _ _ _ _ HF.out).mono ?_; rintro e w2 ⟨rfl, hk2⟩)
      have hB1_2 := Kept.trans hB1_1 hk2
      obtain ⟨hc1_2, hf1_2⟩ := kept_cells hB1_2
      have hz1_0_2 : w.heap.size < w2.heap.size := by have := hB1_2.size; simp at this; omega
      have hz1_1_2 : w.heap.size + 1 < w2.heap.size := by have := hB1_2.size; simp at this; omega
      go_wp2
      exact bodyPost_ret (v := .tuple #[.agg #[.int .i64 x1, .int .i64 x2, .int .i64 x3], .int .i64 e]) (by simp [results, Tryd.results43, go_sem, *]) rfl ⟨rfl, (by repeat (first | with_reducible exact Kept.refl _ | with_reducible assumption | with_reducible refine Kept.drew ?_ | with_reducible refine Kept.drewN ?_ _ | with_reducible refine Kept.alloc ?_ _ | (with_reducible refine Kept.setCell ?_ (by first | exact Nat.le_refl _ | omega | (simp; done) | (simp; omega)) _) | (with_reducible refine Kept.trans ?_ (by with_reducible assumption))))⟩
  · have e3 : cE a y m d = 3 := if_neg ha
    have h' : a < 1 ∨ 2 < a := by unfold IsCal at ha; omega
    have hx : x1 = 0 ∧ x2 = 0 ∧ x3 = 0 ∧ e = 3 := by
      rcases h with ⟨h, r⟩ | ⟨h, hne, r1, r2, r3, r4⟩ | ⟨h, hz, hf⟩
      · exact r
      · exact ⟨r1, r2, r3, by omega⟩
      · omega
    obtain ⟨rfl, rfl, rfl, rfl⟩ := hx
    clear h ha e3
    rcases h' with h' | h'
    all_goals
      go_enter Tryd.func43, Tryd.ntmps43
      go_wp2
      exact bodyPost_ret (v := .tuple #[.agg #[.int .i64 0, .int .i64 0, .int .i64 0], .int .i64 3]) (by simp [results, Tryd.results43, go_sem, *]) rfl ⟨rfl, (by repeat (first | with_reducible exact Kept.refl _ | with_reducible assumption | with_reducible refine Kept.drew ?_ | with_reducible refine Kept.drewN ?_ _ | with_reducible refine Kept.alloc ?_ _ | (with_reducible refine Kept.setCell ?_ (by first | exact Nat.le_refl _ | omega | (simp; done) | (simp; omega)) _) | (with_reducible refine Kept.trans ?_ (by with_reducible assumption))))⟩
end Go.Proofs.YtcfgiboknkkheaaDoor

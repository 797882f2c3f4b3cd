/- Contracts and plain lemmas: Cvt, Ort. -/
import Derived.Test.YtblaphkaklocfaaGreatDoorG01
import Derived.Test.YtblaphkaklocfaaGreatDoorG05
import Derived.Test.YtblaphkaklocfaaGreatDoorG07
import Derived.Test.YtblaphkaklocfaaGreatDoorG08
import Derived.Outline
set_option linter.unusedSimpArgs false
set_option linter.unusedVariables false
set_option linter.unusedSectionVars false
/- Contract: civil.Convert. -/
namespace Go.Proofs.YtblaphkaklocfaaGreatDoor
open Go.ChangeShapes Go.WideShapes Go.ChangeAt Go.RowKit
set_option maxHeartbeats 800000

theorem Convert_all (y m d a b x1 x2 x3 e : Int) (w : World) (hT : Tab w) (h : CvRel y m d a b x1 x2 x3 e) :
    Calls Tryz.prog 135 #[.agg #[.int .i64 y, .int .i64 m, .int .i64 d], .int .i64 a, .int .i64 b] w fun e' w' => e' = .returned (.tuple #[.agg #[.int .i64 x1, .int .i64 x2, .int .i64 x3], .int .i64 e]) ∧ Kept w w' := by
  have KT := Lib.hid (fun w' (k : Kept w w') => hT.kept k)
  clear hT
  rcases h with ⟨h, rfl, rfl, rfl, rfl⟩ | ⟨h, hne, rfl, rfl, rfl, rfl⟩ | ⟨h, hz, hf⟩
  · have h' : b < 1 ∨ 2 < b := by unfold IsCal at h; omega
    clear h
    go_enter Tryz.func135, Tryz.ntmps135
    go_wp2_with fail
    (go_at_call 99; refine (of_no _ _ h').mono ?_; rintro e w1 ⟨rfl, hk1⟩)
    have hB1_1 := hk1
    obtain ⟨hc1_1, hf1_1⟩ := kept_cells hB1_1
    have hz1_0_1 : w.heap.size < w1.heap.size := by have := hB1_1.size; simp at this; omega
    have hz1_1_1 : w.heap.size + 1 < w1.heap.size := by have := hB1_1.size; simp at this; omega
    go_wp2
    exact bodyPost_ret (v := .tuple #[.agg #[.int .i64 0, .int .i64 0, .int .i64 0], .int .i64 3]) (by simp [results, Tryz.results135, go_sem, *]) rfl ⟨rfl, (by repeat (first | with_reducible exact Kept.refl _ | with_reducible assumption | with_reducible refine Kept.drew ?_ | with_reducible refine Kept.drewN ?_ _ | with_reducible refine Kept.alloc ?_ _ | (with_reducible refine Kept.setCell ?_ (by first | exact Nat.le_refl _ | omega | (simp; done) | (simp; omega)) _) | (with_reducible refine Kept.trans ?_ (by with_reducible assumption))))⟩
  · have hp := cE_pos a y m d hne
    have HN : Hid (cN a y m d = 0) := by
      rcases c_cases a y m d with ⟨_, _, _, h'⟩ | ⟨h', _⟩
      · omega
      · exact h'
    clear hne
    rcases h with rfl | rfl
    · go_enter Tryz.func135, Tryz.ntmps135
      go_wp2_with fail
      (go_at_call 99; refine (of_1 _).mono ?_; rintro e w1 ⟨rfl, hk1⟩)
      have hB1_1 := hk1
      obtain ⟨hc1_1, hf1_1⟩ := kept_cells hB1_1
      have hz1_0_1 : w.heap.size < w1.heap.size := by have := hB1_1.size; simp at this; omega
      have hz1_1_1 : w.heap.size + 1 < w1.heap.size := by have := hB1_1.size; simp at this; omega
      go_wp2_with fail
      (go_at_call 96; refine (CToDay_all _ _ _ _ _ (KT.out _ (by repeat (first | with_reducible exact Kept.refl _ | with_reducible assumption | with_reducible refine Kept.drew ?_ | with_reducible refine Kept.drewN ?_ _ | with_reducible refine Kept.alloc ?_ _ | (with_reducible refine Kept.setCell ?_ (by first | exact Nat.le_refl _ | omega | (simp; done) | (simp; omega)) _) | (with_reducible refine Kept.trans ?_ (by with_reducible assumption)))))).mono ?_; rintro e w2 ⟨rfl, hk2⟩)
      have hB1_2 := Kept.trans (Kept.alloc hB1_1 _) hk2
      have hB2_2 := hk2
      obtain ⟨hc1_2, hf1_2⟩ := kept_cells hB1_2
      have hz1_0_2 : w.heap.size < w2.heap.size := by have := hB1_2.size; simp at this; omega
      have hz1_1_2 : w.heap.size + 1 < w2.heap.size := by have := hB1_2.size; simp at this; omega
      obtain ⟨hc2_2, hf2_2⟩ := kept_cells hB2_2
      have hz2_0_2 : w1.heap.size < w2.heap.size := by have := hB2_2.size; simp at this; omega
      go_wp2
      exact bodyPost_ret (v := .tuple #[.agg #[.int .i64 0, .int .i64 0, .int .i64 0], .int .i64 (cE a y m d)]) (by simp [results, Tryz.results135, go_sem, *]) rfl ⟨rfl, (by repeat (first | with_reducible exact Kept.refl _ | with_reducible assumption | with_reducible refine Kept.drew ?_ | with_reducible refine Kept.drewN ?_ _ | with_reducible refine Kept.alloc ?_ _ | (with_reducible refine Kept.setCell ?_ (by first | exact Nat.le_refl _ | omega | (simp; done) | (simp; omega)) _) | (with_reducible refine Kept.trans ?_ (by with_reducible assumption))))⟩
    · go_enter Tryz.func135, Tryz.ntmps135
      go_wp2_with fail
      (go_at_call 99; refine (of_2 _).mono ?_; rintro e w1 ⟨rfl, hk1⟩)
      have hB1_1 := hk1
      obtain ⟨hc1_1, hf1_1⟩ := kept_cells hB1_1
      have hz1_0_1 : w.heap.size < w1.heap.size := by have := hB1_1.size; simp at this; omega
      have hz1_1_1 : w.heap.size + 1 < w1.heap.size := by have := hB1_1.size; simp at this; omega
      go_wp2_with fail
      (go_at_call 96; refine (CToDay_all _ _ _ _ _ (KT.out _ (by repeat (first | with_reducible exact Kept.refl _ | with_reducible assumption | with_reducible refine Kept.drew ?_ | with_reducible refine Kept.drewN ?_ _ | with_reducible refine Kept.alloc ?_ _ | (with_reducible refine Kept.setCell ?_ (by first | exact Nat.le_refl _ | omega | (simp; done) | (simp; omega)) _) | (with_reducible refine Kept.trans ?_ (by with_reducible assumption)))))).mono ?_; rintro e w2 ⟨rfl, hk2⟩)
      have hB1_2 := Kept.trans (Kept.alloc hB1_1 _) hk2
      have hB2_2 := hk2
      obtain ⟨hc1_2, hf1_2⟩ := kept_cells hB1_2
      have hz1_0_2 : w.heap.size < w2.heap.size := by have := hB1_2.size; simp at this; omega
      have hz1_1_2 : w.heap.size + 1 < w2.heap.size := by have := hB1_2.size; simp at this; omega
      obtain ⟨hc2_2, hf2_2⟩ := kept_cells hB2_2
      have hz2_0_2 : w1.heap.size < w2.heap.size := by have := hB2_2.size; simp at this; omega
      go_wp2
      exact bodyPost_ret (v := .tuple #[.agg #[.int .i64 0, .int .i64 0, .int .i64 0], .int .i64 (cE a y m d)]) (by simp [results, Tryz.results135, go_sem, *]) rfl ⟨rfl, (by repeat (first | with_reducible exact Kept.refl _ | with_reducible assumption | with_reducible refine Kept.drew ?_ | with_reducible refine Kept.drewN ?_ _ | with_reducible refine Kept.alloc ?_ _ | (with_reducible refine Kept.setCell ?_ (by first | exact Nat.le_refl _ | omega | (simp; done) | (simp; omega)) _) | (with_reducible refine Kept.trans ?_ (by with_reducible assumption))))⟩
  · have HZ := Lib.hid hz
    have HF := Lib.hid hf
    clear hz hf
    rcases h with rfl | rfl
    · go_enter Tryz.func135, Tryz.ntmps135
      go_wp2_with fail
      (go_at_call 99; refine (of_1 _).mono ?_; rintro e w1 ⟨rfl, hk1⟩)
      have hB1_1 := hk1
      obtain ⟨hc1_1, hf1_1⟩ := kept_cells hB1_1
      have hz1_0_1 : w.heap.size < w1.heap.size := by have := hB1_1.size; simp at this; omega
      have hz1_1_1 : w.heap.size + 1 < w1.heap.size := by have := hB1_1.size; simp at this; omega
      go_wp2_with fail
      (go_at_call 96; refine (CToDay_ok _ _ _ _ _ (KT.out _ (by repeat (first | with_reducible exact Kept.refl _ | with_reducible assumption | with_reducible refine Kept.drew ?_ | with_reducible refine Kept.drewN ?_ _ | with_reducible refine Kept.alloc ?_ _ | (with_reducible refine Kept.setCell ?_ (by first | exact Nat.le_refl _ | omega | (simp; done) | (simp; omega)) _) | (with_reducible refine Kept.trans ?_ (by with_reducible assumption))))) HZ.out).mono ?_; rintro e w2 ⟨rfl, hk2⟩)
      have hB1_2 := Kept.trans (Kept.alloc hB1_1 _) hk2
      have hB2_2 := hk2
      obtain ⟨hc1_2, hf1_2⟩ := kept_cells hB1_2
      have hz1_0_2 : w.heap.size < w2.heap.size := by have := hB1_2.size; simp at this; omega
      have hz1_1_2 : w.heap.size + 1 < w2.heap.size := by have := hB1_2.size; simp at this; omega
      obtain ⟨hc2_2, hf2_2⟩ := kept_cells hB2_2
      have hz2_0_2 : w1.heap.size < w2.heap.size := by have := hB2_2.size; simp at this; omega
      go_wp2_with fail
      (go_at_call 45; refine (CFromDay_all _ _ _ _ _ _ _ (KT.out _ (by repeat (first | with_reducible exact Kept.refl _ | with_reducible assumption | with_reducible refine Kept.drew ?_ | with_reducible refine Kept.drewN ?_ _ | with_reducible refine Kept.alloc ?_ _ | (with_reducible refine Kept.setCell ?_ (by first | exact Nat.le_refl _ | omega | (simp; done) | (simp; omega)) _) | (with_reducible refine Kept.trans ?_ (by with_reducible assumption))))) HF.out).mono ?_; rintro e w3 ⟨rfl, hk3⟩)
      have hB1_3 := Kept.trans hB1_2 hk3
      have hB2_3 := Kept.trans hB2_2 hk3
      obtain ⟨hc1_3, hf1_3⟩ := kept_cells hB1_3
      have hz1_0_3 : w.heap.size < w3.heap.size := by have := hB1_3.size; simp at this; omega
      have hz1_1_3 : w.heap.size + 1 < w3.heap.size := by have := hB1_3.size; simp at this; omega
      obtain ⟨hc2_3, hf2_3⟩ := kept_cells hB2_3
      have hz2_0_3 : w1.heap.size < w3.heap.size := by have := hB2_3.size; simp at this; omega
      go_wp2
      exact bodyPost_ret (v := .tuple #[.agg #[.int .i64 x1, .int .i64 x2, .int .i64 x3], .int .i64 e]) (by simp [results, Tryz.results135, go_sem, *]) rfl ⟨rfl, (by repeat (first | with_reducible exact Kept.refl _ | with_reducible assumption | with_reducible refine Kept.drew ?_ | with_reducible refine Kept.drewN ?_ _ | with_reducible refine Kept.alloc ?_ _ | (with_reducible refine Kept.setCell ?_ (by first | exact Nat.le_refl _ | omega | (simp; done) | (simp; omega)) _) | (with_reducible refine Kept.trans ?_ (by with_reducible assumption))))⟩
    · go_enter Tryz.func135, Tryz.ntmps135
      go_wp2_with fail
      (go_at_call 99; refine (of_2 _).mono ?_; rintro e w1 ⟨rfl, hk1⟩)
      have hB1_1 := hk1
      obtain ⟨hc1_1, hf1_1⟩ := kept_cells hB1_1
      have hz1_0_1 : w.heap.size < w1.heap.size := by have := hB1_1.size; simp at this; omega
      have hz1_1_1 : w.heap.size + 1 < w1.heap.size := by have := hB1_1.size; simp at this; omega
      go_wp2_with fail
      (go_at_call 96; refine (CToDay_ok _ _ _ _ _ (KT.out _ (by repeat (first | with_reducible exact Kept.refl _ | with_reducible assumption | with_reducible refine Kept.drew ?_ | with_reducible refine Kept.drewN ?_ _ | with_reducible refine Kept.alloc ?_ _ | (with_reducible refine Kept.setCell ?_ (by first | exact Nat.le_refl _ | omega | (simp; done) | (simp; omega)) _) | (with_reducible refine Kept.trans ?_ (by with_reducible assumption))))) HZ.out).mono ?_; rintro e w2 ⟨rfl, hk2⟩)
      have hB1_2 := Kept.trans (Kept.alloc hB1_1 _) hk2
      have hB2_2 := hk2
      obtain ⟨hc1_2, hf1_2⟩ := kept_cells hB1_2
      have hz1_0_2 : w.heap.size < w2.heap.size := by have := hB1_2.size; simp at this; omega
      have hz1_1_2 : w.heap.size + 1 < w2.heap.size := by have := hB1_2.size; simp at this; omega
      obtain ⟨hc2_2, hf2_2⟩ := kept_cells hB2_2
      have hz2_0_2 : w1.heap.size < w2.heap.size := by have := hB2_2.size; simp at this; omega
      go_wp2_with fail
      (go_at_call 45; refine (CFromDay_all _ _ _ _ _ _ _ (KT.out _ (by repeat (first | with_reducible exact Kept.refl _ | with_reducible assumption | with_reducible refine Kept.drew ?_ | with_reducible refine Kept.drewN ?_ _ | with_reducible refine Kept.alloc ?_ _ | (with_reducible refine Kept.setCell ?_ (by first | exact Nat.le_refl _ | omega | (simp; done) | (simp; omega)) _) | (with_reducible refine Kept.trans ?_ (by with_reducible assumption))))) HF.out).mono ?_; rintro e w3 ⟨rfl, hk3⟩)
      have hB1_3 := Kept.trans hB1_2 hk3
      have hB2_3 := Kept.trans hB2_2 hk3
      obtain ⟨hc1_3, hf1_3⟩ := kept_cells hB1_3
      have hz1_0_3 : w.heap.size < w3.heap.size := by have := hB1_3.size; simp at this; omega
      have hz1_1_3 : w.heap.size + 1 < w3.heap.size := by have := hB1_3.size; simp at this; omega
      obtain ⟨hc2_3, hf2_3⟩ := kept_cells hB2_3
      have hz2_0_3 : w1.heap.size < w3.heap.size := by have := hB2_3.size; simp at this; omega
      go_wp2
      exact bodyPost_ret (v := .tuple #[.agg #[.int .i64 x1, .int .i64 x2, .int .i64 x3], .int .i64 e]) (by simp [results, Tryz.results135, go_sem, *]) rfl ⟨rfl, (by repeat (first | with_reducible exact Kept.refl _ | with_reducible assumption | with_reducible refine Kept.drew ?_ | with_reducible refine Kept.drewN ?_ _ | with_reducible refine Kept.alloc ?_ _ | (with_reducible refine Kept.setCell ?_ (by first | exact Nat.le_refl _ | omega | (simp; done) | (simp; omega)) _) | (with_reducible refine Kept.trans ?_ (by with_reducible assumption))))⟩

end Go.Proofs.YtblaphkaklocfaaGreatDoor
/- Contracts: package orthodox and its reference. -/
namespace Go.Proofs.YtblaphkaklocfaaGreatDoor
open Go.ChangeShapes Go.WideShapes Go.ChangeAt Go.RowKit
set_option maxHeartbeats 1000000
set_option maxRecDepth 20000

theorem oPas_any (c y : Int) (w : World) (hT : RTab w) (hc : Sm c) :
    Calls Tryz.prog 46 #[.int .i64 c, .int .i64 y] w fun e w' => e = .returned (.tuple #[.int .i64 (esV c y), .int .i64 (flE c y)]) ∧ Kept w w' := by
  have KD := Lib.hid (fun w hT => EDay_any c y w hT hc)
  have KT := Lib.hid (fun w' (k : Kept w w') => hT.kept k)
  have hb : 0 ≤ esV c y ∧ esV c y ≤ 365250000100 := by
    rcases fl_cases c y with ⟨hf, e0⟩ | ⟨hf, e0⟩ | ⟨hf, e0⟩
    · rw [show esV c y = esN c y from if_pos e0]; exact esN_bounds c y hf
    · rw [show esV c y = 0 from by unfold esV; rw [if_neg (by omega)]]; omega
    · rw [show esV c y = 0 from by unfold esV; rw [if_neg (by omega)]]; omega
  clear hT hc
  generalize esV c y = n at *
  generalize flE c y = x at *
  go_enter Tryz.func46, Tryz.ntmps46
  go_wp2_with fail
  (go_at_call 44; refine (KD.out _ (KT.out _ (by repeat (first | with_reducible exact Kept.refl _ | with_reducible assumption | with_reducible refine Kept.drew ?_ | with_reducible refine Kept.drewN ?_ _ | with_reducible refine Kept.alloc ?_ _ | (with_reducible refine Kept.setCell ?_ (by first | exact Nat.le_refl _ | omega | (simp; done) | (simp; omega)) _) | (with_reducible refine Kept.trans ?_ (by with_reducible assumption)))))).mono ?_; rintro e w1 ⟨rfl, hk1⟩)
  go_wp2
  go_ret2
  exact ⟨rfl, (by repeat (first | with_reducible exact Kept.refl _ | with_reducible assumption | with_reducible refine Kept.drew ?_ | with_reducible refine Kept.drewN ?_ _ | with_reducible refine Kept.alloc ?_ _ | (with_reducible refine Kept.setCell ?_ (by first | exact Nat.le_refl _ | omega | (simp; done) | (simp; omega)) _) | (with_reducible refine Kept.trans ?_ (by with_reducible assumption))))⟩
theorem oIn_any (n c x1 x2 x3 e : Int) (w : World) (hT : RTab w) (hf : FdC c n x1 x2 x3 e) (hn : 0 ≤ n ∧ n ≤ 365250000100) :
    Calls Tryz.prog 47 #[.int .i64 n, .int .i64 c] w fun e' w' => e' = .returned (.tuple #[.agg #[.int .i64 x1, .int .i64 x2, .int .i64 x3], .int .i64 e]) ∧ Kept w w' := by
  have KF := Lib.hid (fun w' (k : Kept w w') => CFromDay_all c n _ _ _ _ w' (hT.kept k).1 hf)
  clear hT hf
  go_enter Tryz.func47, Tryz.ntmps47
  go_wp2_with fail
  (go_at_call 45; refine (KF.out _ (by repeat (first | with_reducible exact Kept.refl _ | with_reducible assumption | with_reducible refine Kept.drew ?_ | with_reducible refine Kept.drewN ?_ _ | with_reducible refine Kept.alloc ?_ _ | (with_reducible refine Kept.setCell ?_ (by first | exact Nat.le_refl _ | omega | (simp; done) | (simp; omega)) _) | (with_reducible refine Kept.trans ?_ (by with_reducible assumption))))).mono ?_; rintro e w1 ⟨rfl, hk1⟩)
  have hB1_1 := hk1
  obtain ⟨hc1_1, hf1_1⟩ := kept_cells hB1_1
  have hz1_0_1 : w.heap.size < w1.heap.size := by have := hB1_1.size; simp at this; omega
  go_wp2
  exact bodyPost_ret (v := .tuple #[.agg #[.int .i64 x1, .int .i64 x2, .int .i64 x3], .int .i64 e]) (by simp [results, Tryz.results47, go_sem, *]) rfl ⟨rfl, (by repeat (first | with_reducible exact Kept.refl _ | with_reducible assumption | with_reducible refine Kept.drew ?_ | with_reducible refine Kept.drewN ?_ _ | with_reducible refine Kept.alloc ?_ _ | (with_reducible refine Kept.setCell ?_ (by first | exact Nat.le_refl _ | omega | (simp; done) | (simp; omega)) _) | (with_reducible refine Kept.trans ?_ (by with_reducible assumption))))⟩
/-- The Gregorian date of Orthodox Easter, and the error. -/
def OtRel (y x1 x2 x3 e : Int) : Prop := (flE 1 y ≠ 0 ∧ x1 = 0 ∧ x2 = 0 ∧ x3 = 0 ∧ e = flE 1 y) ∨ (flE 1 y = 0 ∧ FdC 2 (esN 1 y) x1 x2 x3 e)
theorem ot_some (y : Int) : ∃ x1 x2 x3 e, OtRel y x1 x2 x3 e := by
  by_cases g : flE 1 y = 0
  · obtain ⟨x1, x2, x3, e, hf⟩ := fdC_some 2 (esN 1 y)
    exact ⟨x1, x2, x3, e, .inr ⟨g, hf⟩⟩
  · exact ⟨0, 0, 0, _, .inl ⟨g, rfl, rfl, rfl, rfl⟩⟩
theorem sm_1 : Sm 1 := by unfold Sm; omega
theorem sm_2 : Sm 2 := by unfold Sm; omega
theorem fl_fit (c y : Int) (h : flE c y = 0) : Fit c y := by
  rcases fl_cases c y with ⟨g, _⟩ | ⟨_, g⟩ | ⟨_, g⟩
  · exact g
  · omega
  · omega
theorem fl_range (c y : Int) : 0 ≤ flE c y ∧ flE c y ≤ 3 := by rcases fl_cases c y with ⟨_, g⟩ | ⟨_, g⟩ | ⟨_, g⟩ <;> omega
theorem ODate_any (y x1 x2 x3 e : Int) (w : World) (hT : RTab w) (hr : OtRel y x1 x2 x3 e) :
    Calls Tryz.prog 14 #[.int .i64 y] w fun e' w' => e' = .returned (.tuple #[.agg #[.int .i64 x1, .int .i64 x2, .int .i64 x3], .int .i64 e]) ∧ Kept w w' := by
  have KT := Lib.hid (fun w' (k : Kept w w') => hT.kept k)
  have KP := Lib.hid (fun w hT => oPas_any 1 y w hT sm_1)
  rcases hr with ⟨g, rfl, rfl, rfl, rfl⟩ | ⟨g, hf⟩
  · have hv : esV 1 y = 0 := if_neg g
    rw [hv] at KP
    have hx := fl_range 1 y
    clear hT hv
    generalize flE 1 y = x at *
    go_enter Tryz.func14, Tryz.ntmps14
    go_wp2_with fail
    (go_at_call 46; refine (KP.out _ (KT.out _ (by repeat (first | with_reducible exact Kept.refl _ | with_reducible assumption | with_reducible refine Kept.drew ?_ | with_reducible refine Kept.drewN ?_ _ | with_reducible refine Kept.alloc ?_ _ | (with_reducible refine Kept.setCell ?_ (by first | exact Nat.le_refl _ | omega | (simp; done) | (simp; omega)) _) | (with_reducible refine Kept.trans ?_ (by with_reducible assumption)))))).mono ?_; rintro e w1 ⟨rfl, hk1⟩)
    have hB1_1 := hk1
    obtain ⟨hc1_1, hf1_1⟩ := kept_cells hB1_1
    have hz1_0_1 : w.heap.size < w1.heap.size := by have := hB1_1.size; simp at this; omega
    go_wp2
    exact bodyPost_ret (v := .tuple #[.agg #[.int .i64 0, .int .i64 0, .int .i64 0], .int .i64 x]) (by simp [results, Tryz.results14, go_sem, *]) rfl ⟨rfl, (by repeat (first | with_reducible exact Kept.refl _ | with_reducible assumption | with_reducible refine Kept.drew ?_ | with_reducible refine Kept.drewN ?_ _ | with_reducible refine Kept.alloc ?_ _ | (with_reducible refine Kept.setCell ?_ (by first | exact Nat.le_refl _ | omega | (simp; done) | (simp; omega)) _) | (with_reducible refine Kept.trans ?_ (by with_reducible assumption))))⟩
  · have hv : esV 1 y = esN 1 y := if_pos g
    rw [hv, g] at KP
    have hb := esN_bounds 1 y (fl_fit 1 y g)
    have KI := Lib.hid (fun w hT => oIn_any (esN 1 y) 2 _ _ _ _ w hT hf hb)
    clear hT hv hf
    generalize esN 1 y = n at *
    go_enter Tryz.func14, Tryz.ntmps14
    go_wp2_with fail
    (go_at_call 46; refine (KP.out _ (KT.out _ (by repeat (first | with_reducible exact Kept.refl _ | with_reducible assumption | with_reducible refine Kept.drew ?_ | with_reducible refine Kept.drewN ?_ _ | with_reducible refine Kept.alloc ?_ _ | (with_reducible refine Kept.setCell ?_ (by first | exact Nat.le_refl _ | omega | (simp; done) | (simp; omega)) _) | (with_reducible refine Kept.trans ?_ (by with_reducible assumption)))))).mono ?_; rintro e w1 ⟨rfl, hk1⟩)
    have hB1_1 := hk1
    obtain ⟨hc1_1, hf1_1⟩ := kept_cells hB1_1
    have hz1_0_1 : w.heap.size < w1.heap.size := by have := hB1_1.size; simp at this; omega
    go_wp2_with fail
    (go_at_call 47; refine (KI.out _ (KT.out _ (by repeat (first | with_reducible exact Kept.refl _ | with_reducible assumption | with_reducible refine Kept.drew ?_ | with_reducible refine Kept.drewN ?_ _ | with_reducible refine Kept.alloc ?_ _ | (with_reducible refine Kept.setCell ?_ (by first | exact Nat.le_refl _ | omega | (simp; done) | (simp; omega)) _) | (with_reducible refine Kept.trans ?_ (by with_reducible assumption)))))).mono ?_; rintro e w2 ⟨rfl, hk2⟩)
    have hB1_2 := Kept.trans hB1_1 hk2
    obtain ⟨hc1_2, hf1_2⟩ := kept_cells hB1_2
    have hz1_0_2 : w.heap.size < w2.heap.size := by have := hB1_2.size; simp at this; omega
    go_wp2
    exact bodyPost_ret (v := .tuple #[.agg #[.int .i64 x1, .int .i64 x2, .int .i64 x3], .int .i64 e]) (by simp [results, Tryz.results14, go_sem, *]) rfl ⟨rfl, (by repeat (first | with_reducible exact Kept.refl _ | with_reducible assumption | with_reducible refine Kept.drew ?_ | with_reducible refine Kept.drewN ?_ _ | with_reducible refine Kept.alloc ?_ _ | (with_reducible refine Kept.setCell ?_ (by first | exact Nat.le_refl _ | omega | (simp; done) | (simp; omega)) _) | (with_reducible refine Kept.trans ?_ (by with_reducible assumption))))⟩
def dlE (y m d : Int) : Int := if cE 1 y m d = 0 then cE 2 y m d else cE 1 y m d
def dlN (y m d : Int) : Int := if dlE y m d = 0 then cN 1 y m d - cN 2 y m d else 0
theorem dl_cases (y m d : Int) : (cE 1 y m d ≠ 0 ∧ dlE y m d = cE 1 y m d ∧ dlN y m d = 0) ∨ (cE 1 y m d = 0 ∧ cE 2 y m d ≠ 0 ∧ dlE y m d = cE 2 y m d ∧ dlN y m d = 0) ∨ (cE 1 y m d = 0 ∧ cE 2 y m d = 0 ∧ dlE y m d = 0 ∧ dlN y m d = cN 1 y m d - cN 2 y m d) := by
  by_cases h1 : cE 1 y m d = 0
  · have e : dlE y m d = cE 2 y m d := if_pos h1
    by_cases h2 : cE 2 y m d = 0
    · exact .inr (.inr ⟨h1, h2, by rw [e, h2], if_pos (by rw [e, h2])⟩)
    · exact .inr (.inl ⟨h1, h2, e, if_neg (by rw [e]; exact h2)⟩)
  · have e : dlE y m d = cE 1 y m d := if_neg h1
    exact .inl ⟨h1, e, if_neg (by rw [e]; exact h1)⟩
/-- The gap. -/
def gpN (y : Int) : Int := if flE 2 y = 0 then esN 1 y - esN 2 y else 0
end Go.Proofs.YtblaphkaklocfaaGreatDoor

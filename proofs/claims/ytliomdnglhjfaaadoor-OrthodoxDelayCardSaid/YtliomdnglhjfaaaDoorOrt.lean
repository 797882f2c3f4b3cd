/- Contracts: package orthodox and its reference. -/
import Derived.Test.YtliomdnglhjfaaaDoorEas2
import Derived.Test.YtliomdnglhjfaaaDoorRefP
import Derived.Test.YtliomdnglhjfaaaDoorMoonG
import Derived.Test.YtliomdnglhjfaaaDoorRefF
import Derived.Outline
set_option linter.unusedSimpArgs false
set_option linter.unusedVariables false
set_option linter.unusedSectionVars false
namespace Go.Proofs.YtliomdnglhjfaaaDoor
open Go.ChangeShapes Go.WideShapes Go.ChangeAt Go.RowKit
set_option maxHeartbeats 1000000
set_option maxRecDepth 20000

theorem oPas_any (c y : Int) (w : World) (hT : RTab w) (hc : Sm c) :
    Calls Tryd.prog 76 #[.int .i64 c, .int .i64 y] w fun e w' => e = .returned (.tuple #[.int .i64 (esV c y), .int .i64 (flE c y)]) ∧ Kept w w' := by
  have KD := Lib.hid (fun w hT => EDay_any c y w hT hc)
  have KT := Lib.hid (fun w' (k : Kept w w') => hT.kept k)
  have hb : 0 ≤ esV c y ∧ esV c y ≤ 365250000100 := by
    rcases fl_cases c y with ⟨hf, e0⟩ | ⟨hf, e0⟩ | ⟨hf, e0⟩
    · rw [show esV c y = esN c y from if_pos e0]; exact esN_bounds c y hf
    · rw [show esV c y = 0 from by unfold esV; rw [if_neg (by omega)]]; omega
    · rw [show esV c y = 0 from by unfold esV; rw [if_neg (by omega)]]; omega
  clear hT hc
  generalize esV c y = n at *
  generalize flE c y = x at *
  go_enter Tryd.func76, Tryd.ntmps76
  go_wp2_with fail
  (go_at_call 35; refine (KD.out _ (KT.out _ (by repeat (first | with_reducible exact Kept.refl _ | with_reducible assumption | with_reducible refine Kept.drew ?_ | with_reducible refine Kept.drewN ?_ _ | with_reducible refine Kept.alloc ?_ _ | (with_reducible refine Kept.setCell ?_ (by first | exact Nat.le_refl _ | omega | (simp; done) | (simp; omega)) _) | (with_reducible refine Kept.trans ?_ (by with_reducible assumption)))))).mono ?_; rintro e w1 ⟨rfl, hk1⟩)
  go_wp2
  go_ret2
  exact ⟨rfl, (by repeat (first | with_reducible exact Kept.refl _ | with_reducible assumption | with_reducible refine Kept.drew ?_ | with_reducible refine Kept.drewN ?_ _ | with_reducible refine Kept.alloc ?_ _ | (with_reducible refine Kept.setCell ?_ (by first | exact Nat.le_refl _ | omega | (simp; done) | (simp; omega)) _) | (with_reducible refine Kept.trans ?_ (by with_reducible assumption))))⟩
theorem oIn_any (n c x1 x2 x3 e : Int) (w : World) (hT : RTab w) (hf : FdC c n x1 x2 x3 e) (hn : 0 ≤ n ∧ n ≤ 365250000100) :
    Calls Tryd.prog 77 #[.int .i64 n, .int .i64 c] w fun e' w' => e' = .returned (.tuple #[.agg #[.int .i64 x1, .int .i64 x2, .int .i64 x3], .int .i64 e]) ∧ Kept w w' := by
  have KF := Lib.hid (fun w' (k : Kept w w') => CFromDay_all c n _ _ _ _ w' (hT.kept k).1 hf)
  clear hT hf
  go_enter Tryd.func77, Tryd.ntmps77
  go_wp2_with fail
  (go_at_call 72; refine (KF.out _ (by repeat (first | with_reducible exact Kept.refl _ | with_reducible assumption | with_reducible refine Kept.drew ?_ | with_reducible refine Kept.drewN ?_ _ | with_reducible refine Kept.alloc ?_ _ | (with_reducible refine Kept.setCell ?_ (by first | exact Nat.le_refl _ | omega | (simp; done) | (simp; omega)) _) | (with_reducible refine Kept.trans ?_ (by with_reducible assumption))))).mono ?_; rintro e w1 ⟨rfl, hk1⟩)
  have hB1_1 := hk1
  obtain ⟨hc1_1, hf1_1⟩ := kept_cells hB1_1
  have hz1_0_1 : w.heap.size < w1.heap.size := by have := hB1_1.size; simp at this; omega
  go_wp2
  exact bodyPost_ret (v := .tuple #[.agg #[.int .i64 x1, .int .i64 x2, .int .i64 x3], .int .i64 e]) (by simp [results, Tryd.results77, go_sem, *]) rfl ⟨rfl, (by repeat (first | with_reducible exact Kept.refl _ | with_reducible assumption | with_reducible refine Kept.drew ?_ | with_reducible refine Kept.drewN ?_ _ | with_reducible refine Kept.alloc ?_ _ | (with_reducible refine Kept.setCell ?_ (by first | exact Nat.le_refl _ | omega | (simp; done) | (simp; omega)) _) | (with_reducible refine Kept.trans ?_ (by with_reducible assumption))))⟩
/-- The Gregorian date of Orthodox Easter, and the error. -/
def OtRel (y x1 x2 x3 e : Int) : Prop := (flE 1 y ≠ 0 ∧ x1 = 0 ∧ x2 = 0 ∧ x3 = 0 ∧ e = flE 1 y) ∨ (flE 1 y = 0 ∧ FdC 2 (esN 1 y) x1 x2 x3 e)
theorem ot_some (y : Int) : ∃ x1 x2 x3 e, OtRel y x1 x2 x3 e := by
  by_cases g : flE 1 y = 0
  · obtain ⟨x1, x2, x3, e, hf⟩ := fdC_some 2 (esN 1 y)
    exact ⟨x1, x2, x3, e, .inr ⟨g, hf⟩⟩
  · exact ⟨0, 0, 0, _, .inl ⟨g, rfl, rfl, rfl, rfl⟩⟩
theorem sm_1 : Sm 1 := by unfold Sm; omega
theorem sm_2 : Sm 2 := by unfold Sm; omega
theorem fl_fit (c y : Int) (h : flE c y = 0) : Fit c y := by
  rcases fl_cases c y with ⟨g, _⟩ | ⟨_, g⟩ | ⟨_, g⟩
  · exact g
  · omega
  · omega
theorem fl_range (c y : Int) : 0 ≤ flE c y ∧ flE c y ≤ 3 := by rcases fl_cases c y with ⟨_, g⟩ | ⟨_, g⟩ | ⟨_, g⟩ <;> omega
theorem ODate_any (y x1 x2 x3 e : Int) (w : World) (hT : RTab w) (hr : OtRel y x1 x2 x3 e) :
    Calls Tryd.prog 44 #[.int .i64 y] w fun e' w' => e' = .returned (.tuple #[.agg #[.int .i64 x1, .int .i64 x2, .int .i64 x3], .int .i64 e]) ∧ Kept w w' := by
  have KT := Lib.hid (fun w' (k : Kept w w') => hT.kept k)
  have KP := Lib.hid (fun w hT => oPas_any 1 y w hT sm_1)
  rcases hr with ⟨g, rfl, rfl, rfl, rfl⟩ | ⟨g, hf⟩
  · have hv : esV 1 y = 0 := if_neg g
    rw [hv] at KP
    have hx := fl_range 1 y
    clear hT hv
    generalize flE 1 y = x at *
    go_enter Tryd.func44, Tryd.ntmps44
    go_wp2_with fail
    (go_at_call 76; refine (KP.out _ (KT.out _ (by repeat (first | with_reducible exact Kept.refl _ | with_reducible assumption | with_reducible refine Kept.drew ?_ | with_reducible refine Kept.drewN ?_ _ | with_reducible refine Kept.alloc ?_ _ | (with_reducible refine Kept.setCell ?_ (by first | exact Nat.le_refl _ | omega | (simp; done) | (simp; omega)) _) | (with_reducible refine Kept.trans ?_ (by with_reducible assumption)))))).mono ?_; rintro e w1 ⟨rfl, hk1⟩)
    have hB1_1 := hk1
    obtain ⟨hc1_1, hf1_1⟩ := kept_cells hB1_1
    have hz1_0_1 : w.heap.size < w1.heap.size := by have := hB1_1.size; simp at this; omega
    go_wp2
    exact bodyPost_ret (v := .tuple #[.agg #[.int .i64 0, .int .i64 0, .int .i64 0], .int .i64 x]) (by simp [results, Tryd.results44, go_sem, *]) rfl ⟨rfl, (by repeat (first | with_reducible exact Kept.refl _ | with_reducible assumption | with_reducible refine Kept.drew ?_ | with_reducible refine Kept.drewN ?_ _ | with_reducible refine Kept.alloc ?_ _ | (with_reducible refine Kept.setCell ?_ (by first | exact Nat.le_refl _ | omega | (simp; done) | (simp; omega)) _) | (with_reducible refine Kept.trans ?_ (by with_reducible assumption))))⟩
  · have hv : esV 1 y = esN 1 y := if_pos g
    rw [hv, g] at KP
    have hb := esN_bounds 1 y (fl_fit 1 y g)
    have KI := Lib.hid (fun w hT => oIn_any (esN 1 y) 2 _ _ _ _ w hT hf hb)
    clear hT hv hf
    generalize esN 1 y = n at *
    go_enter Tryd.func44, Tryd.ntmps44
    go_wp2_with fail
    (go_at_call 76; refine (KP.out _ (KT.out _ (by repeat (first | with_reducible exact Kept.refl _ | with_reducible assumption | with_reducible refine Kept.drew ?_ | with_reducible refine Kept.drewN ?_ _ | with_reducible refine Kept.alloc ?_ _ | (with_reducible refine Kept.setCell ?_ (by first | exact Nat.le_refl _ | omega | (simp; done) | (simp; omega)) _) | (with_reducible refine Kept.trans ?_ (by with_reducible assumption)))))).mono ?_; rintro e w1 ⟨rfl, hk1⟩)
    have hB1_1 := hk1
    obtain ⟨hc1_1, hf1_1⟩ := kept_cells hB1_1
    have hz1_0_1 : w.heap.size < w1.heap.size := by have := hB1_1.size; simp at this; omega
    go_wp2_with fail
    (go_at_call 77; refine (KI.out _ (KT.out _ (by repeat (first | with_reducible exact Kept.refl _ | with_reducible assumption | with_reducible refine Kept.drew ?_ | with_reducible refine Kept.drewN ?_ _ | with_reducible refine Kept.alloc ?_ _ | (with_reducible refine Kept.setCell ?_ (by first | exact Nat.le_refl _ | omega | (simp; done) | (simp; omega)) _) | (with_reducible refine Kept.trans ?_ (by with_reducible assumption)))))).mono ?_; rintro e w2 ⟨rfl, hk2⟩)
    have hB1_2 := Kept.trans hB1_1 hk2
    obtain ⟨hc1_2, hf1_2⟩ := kept_cells hB1_2
    have hz1_0_2 : w.heap.size < w2.heap.size := by have := hB1_2.size; simp at this; omega
    go_wp2
    exact bodyPost_ret (v := .tuple #[.agg #[.int .i64 x1, .int .i64 x2, .int .i64 x3], .int .i64 e]) (by simp [results, Tryd.results44, go_sem, *]) rfl ⟨rfl, (by repeat (first | with_reducible exact Kept.refl _ | with_reducible assumption | with_reducible refine Kept.drew ?_ | with_reducible refine Kept.drewN ?_ _ | with_reducible refine Kept.alloc ?_ _ | (with_reducible refine Kept.setCell ?_ (by first | exact Nat.le_refl _ | omega | (simp; done) | (simp; omega)) _) | (with_reducible refine Kept.trans ?_ (by with_reducible assumption))))⟩
theorem rODate_any (y x1 x2 x3 e : Int) (w : World) (hr : OtRel y x1 x2 x3 e) :
    Calls Tryd.prog 45 #[.int .i64 y] w fun e' w' => e' = .returned (.tuple #[.agg #[.int .i64 x1, .int .i64 x2, .int .i64 x3], .int .i64 e]) ∧ Kept w w' := by
  rcases hr with ⟨g, rfl, rfl, rfl, rfl⟩ | ⟨g, hf⟩
  · rcases fl_cases 1 y with ⟨_, h⟩ | ⟨ho, h⟩ | ⟨ho, h⟩
    · exact absurd h g
    · have hy : y < 1 ∨ 1000000000 < y := by unfold Off at ho; omega
      have KI := Lib.hid (fun w => In_no y w hy)
      rw [h]
      clear g h ho
      go_enter Tryd.func45, Tryd.ntmps45
      go_wp2_with (go_at_call 57; (with_reducible refine (KI.out _).mono ?_); rintro e w1 ⟨rfl, rfl⟩)
      exact bodyPost_ret (v := .tuple #[.agg #[.int .i64 0, .int .i64 0, .int .i64 0], .int .i64 1]) (by simp [results, Tryd.results45, go_sem, *]) rfl ⟨rfl, (by repeat (first | with_reducible exact Kept.refl _ | with_reducible assumption | with_reducible refine Kept.drew ?_ | with_reducible refine Kept.drewN ?_ _ | with_reducible refine Kept.alloc ?_ _ | (with_reducible refine Kept.setCell ?_ (by first | exact Nat.le_refl _ | omega | (simp; done) | (simp; omega)) _) | (with_reducible refine Kept.trans ?_ (by with_reducible assumption))))⟩
    · omega
  · have hF := fl_fit 1 y g
    have hy : 1 ≤ y ∧ y ≤ 1000000000 := by unfold Fit at hF; omega
    have KI := Lib.hid (fun w => In_yes y w hy.1 hy.2)
    have KD := Lib.hid (fun w => rDay_ok 1 y w hF)
    have hfd : FdRel 2 (esN 1 y) x1 x2 x3 e := by
      rcases hf with ⟨_, h⟩ | ⟨h, _⟩
      · exact h
      · exact absurd (.inr rfl) h
    have KF := Lib.hid (fun w => rFromDay_all (esN 1 y) _ _ _ _ w hfd)
    have hb := esN_bounds 1 y hF
    clear hF hf hfd g hy
    generalize esN 1 y = n at *
    go_enter Tryd.func45, Tryd.ntmps45
    go_wp2_with (go_at_call 57; (with_reducible refine (KI.out _).mono ?_); rintro e w1 ⟨rfl, rfl⟩)
    go_wp2_with fail
    (go_at_call 37; refine (KD.out _).mono ?_; rintro e w1 ⟨rfl, hk1⟩)
    have hB1_1 := hk1
    obtain ⟨hc1_1, hf1_1⟩ := kept_cells hB1_1
    have hz1_0_1 : w.heap.size < w1.heap.size := by have := hB1_1.size; simp at this; omega
    go_wp2_with fail
    (go_at_call 63; refine (KF.out _).mono ?_; rintro e w2 ⟨rfl, hk2⟩)
    have hB1_2 := Kept.trans hB1_1 hk2
    obtain ⟨hc1_2, hf1_2⟩ := kept_cells hB1_2
    have hz1_0_2 : w.heap.size < w2.heap.size := by have := hB1_2.size; simp at this; omega
    go_wp2
    exact bodyPost_ret (v := .tuple #[.agg #[.int .i64 x1, .int .i64 x2, .int .i64 x3], .int .i64 e]) (by simp [results, Tryd.results45, go_sem, *]) rfl ⟨rfl, (by repeat (first | with_reducible exact Kept.refl _ | with_reducible assumption | with_reducible refine Kept.drew ?_ | with_reducible refine Kept.drewN ?_ _ | with_reducible refine Kept.alloc ?_ _ | (with_reducible refine Kept.setCell ?_ (by first | exact Nat.le_refl _ | omega | (simp; done) | (simp; omega)) _) | (with_reducible refine Kept.trans ?_ (by with_reducible assumption))))⟩
def dlE (y m d : Int) : Int := if cE 1 y m d = 0 then cE 2 y m d else cE 1 y m d
def dlN (y m d : Int) : Int := if dlE y m d = 0 then cN 1 y m d - cN 2 y m d else 0
theorem dl_cases (y m d : Int) : (cE 1 y m d ≠ 0 ∧ dlE y m d = cE 1 y m d ∧ dlN y m d = 0) ∨ (cE 1 y m d = 0 ∧ cE 2 y m d ≠ 0 ∧ dlE y m d = cE 2 y m d ∧ dlN y m d = 0) ∨ (cE 1 y m d = 0 ∧ cE 2 y m d = 0 ∧ dlE y m d = 0 ∧ dlN y m d = cN 1 y m d - cN 2 y m d) := by
  by_cases h1 : cE 1 y m d = 0
  · have e : dlE y m d = cE 2 y m d := if_pos h1
    by_cases h2 : cE 2 y m d = 0
    · exact .inr (.inr ⟨h1, h2, by rw [e, h2], if_pos (by rw [e, h2])⟩)
    · exact .inr (.inl ⟨h1, h2, e, if_neg (by rw [e]; exact h2)⟩)
  · have e : dlE y m d = cE 1 y m d := if_neg h1
    exact .inl ⟨h1, e, if_neg (by rw [e]; exact h1)⟩
theorem ODelay_any (y m d : Int) (w : World) (hT : RTab w) :
    Calls Tryd.prog 46 #[.agg #[.int .i64 y, .int .i64 m, .int .i64 d]] w fun e' w' => e' = .returned (.tuple #[.int .i64 (dlN y m d), .int .i64 (dlE y m d)]) ∧ Kept w w' := by
  have KT := Lib.hid (fun w' (k : Kept w w') => hT.kept k)
  have K1 := Lib.hid (fun w (h : RTab w) => CToDay_all 1 y m d w h.1)
  have K2 := Lib.hid (fun w (h : RTab w) => CToDay_all 2 y m d w h.1)
  have b1 := cN_bounds 1 y m d
  have b2 := cN_bounds 2 y m d
  have r1 := cE_range 1 y m d
  have r2 := cE_range 2 y m d
  have hc := dl_cases y m d
  clear hT
  generalize dlN y m d = N at *
  generalize dlE y m d = E at *
  generalize cN 1 y m d = n1 at *
  generalize cN 2 y m d = n2 at *
  generalize cE 1 y m d = e1 at *
  generalize cE 2 y m d = e2 at *
  rcases hc with ⟨h1, rfl, rfl⟩ | ⟨rfl, h2, rfl, rfl⟩ | ⟨rfl, rfl, rfl, rfl⟩
  · go_enter Tryd.func46, Tryd.ntmps46
    go_wp2_with fail
    (go_at_call 58; refine (K1.out _ (KT.out _ (by repeat (first | with_reducible exact Kept.refl _ | with_reducible assumption | with_reducible refine Kept.drew ?_ | with_reducible refine Kept.drewN ?_ _ | with_reducible refine Kept.alloc ?_ _ | (with_reducible refine Kept.setCell ?_ (by first | exact Nat.le_refl _ | omega | (simp; done) | (simp; omega)) _) | (with_reducible refine Kept.trans ?_ (by with_reducible assumption)))))).mono ?_; rintro e w1 ⟨rfl, hk1⟩)
    have hB1_1 := hk1
    obtain ⟨hc1_1, hf1_1⟩ := kept_cells hB1_1
    have hz1_0_1 : w.heap.size < w1.heap.size := by have := hB1_1.size; simp at this; omega
    go_wp2
    go_ret2
    exact ⟨rfl, (by repeat (first | with_reducible exact Kept.refl _ | with_reducible assumption | with_reducible refine Kept.drew ?_ | with_reducible refine Kept.drewN ?_ _ | with_reducible refine Kept.alloc ?_ _ | (with_reducible refine Kept.setCell ?_ (by first | exact Nat.le_refl _ | omega | (simp; done) | (simp; omega)) _) | (with_reducible refine Kept.trans ?_ (by with_reducible assumption))))⟩
  · go_enter Tryd.func46, Tryd.ntmps46
    go_wp2_with fail
    (go_at_call 58; refine (K1.out _ (KT.out _ (by repeat (first | with_reducible exact Kept.refl _ | with_reducible assumption | with_reducible refine Kept.drew ?_ | with_reducible refine Kept.drewN ?_ _ | with_reducible refine Kept.alloc ?_ _ | (with_reducible refine Kept.setCell ?_ (by first | exact Nat.le_refl _ | omega | (simp; done) | (simp; omega)) _) | (with_reducible refine Kept.trans ?_ (by with_reducible assumption)))))).mono ?_; rintro e w1 ⟨rfl, hk1⟩)
    have hB1_1 := hk1
    obtain ⟨hc1_1, hf1_1⟩ := kept_cells hB1_1
    have hz1_0_1 : w.heap.size < w1.heap.size := by have := hB1_1.size; simp at this; omega
    go_wp2_with fail
    (go_at_call 58; refine (K2.out _ (KT.out _ (by repeat (first | with_reducible exact Kept.refl _ | with_reducible assumption | with_reducible refine Kept.drew ?_ | with_reducible refine Kept.drewN ?_ _ | with_reducible refine Kept.alloc ?_ _ | (with_reducible refine Kept.setCell ?_ (by first | exact Nat.le_refl _ | omega | (simp; done) | (simp; omega)) _) | (with_reducible refine Kept.trans ?_ (by with_reducible assumption)))))).mono ?_; rintro e w2 ⟨rfl, hk2⟩)
    have hB1_2 := Kept.trans hB1_1 hk2
    obtain ⟨hc1_2, hf1_2⟩ := kept_cells hB1_2
    have hz1_0_2 : w.heap.size < w2.heap.size := by have := hB1_2.size; simp at this; omega
    go_wp2
    go_ret2
    exact ⟨rfl, (by repeat (first | with_reducible exact Kept.refl _ | with_reducible assumption | with_reducible refine Kept.drew ?_ | with_reducible refine Kept.drewN ?_ _ | with_reducible refine Kept.alloc ?_ _ | (with_reducible refine Kept.setCell ?_ (by first | exact Nat.le_refl _ | omega | (simp; done) | (simp; omega)) _) | (with_reducible refine Kept.trans ?_ (by with_reducible assumption))))⟩
  · go_enter Tryd.func46, Tryd.ntmps46
    go_wp2_with fail
    (go_at_call 58; refine (K1.out _ (KT.out _ (by repeat (first | with_reducible exact Kept.refl _ | with_reducible assumption | with_reducible refine Kept.drew ?_ | with_reducible refine Kept.drewN ?_ _ | with_reducible refine Kept.alloc ?_ _ | (with_reducible refine Kept.setCell ?_ (by first | exact Nat.le_refl _ | omega | (simp; done) | (simp; omega)) _) | (with_reducible refine Kept.trans ?_ (by with_reducible assumption)))))).mono ?_; rintro e w1 ⟨rfl, hk1⟩)
    have hB1_1 := hk1
    obtain ⟨hc1_1, hf1_1⟩ := kept_cells hB1_1
    have hz1_0_1 : w.heap.size < w1.heap.size := by have := hB1_1.size; simp at this; omega
    go_wp2_with fail
    (go_at_call 58; refine (K2.out _ (KT.out _ (by repeat (first | with_reducible exact Kept.refl _ | with_reducible assumption | with_reducible refine Kept.drew ?_ | with_reducible refine Kept.drewN ?_ _ | with_reducible refine Kept.alloc ?_ _ | (with_reducible refine Kept.setCell ?_ (by first | exact Nat.le_refl _ | omega | (simp; done) | (simp; omega)) _) | (with_reducible refine Kept.trans ?_ (by with_reducible assumption)))))).mono ?_; rintro e w2 ⟨rfl, hk2⟩)
    have hB1_2 := Kept.trans hB1_1 hk2
    obtain ⟨hc1_2, hf1_2⟩ := kept_cells hB1_2
    have hz1_0_2 : w.heap.size < w2.heap.size := by have := hB1_2.size; simp at this; omega
    go_wp2
    go_ret2
    exact ⟨rfl, (by repeat (first | with_reducible exact Kept.refl _ | with_reducible assumption | with_reducible refine Kept.drew ?_ | with_reducible refine Kept.drewN ?_ _ | with_reducible refine Kept.alloc ?_ _ | (with_reducible refine Kept.setCell ?_ (by first | exact Nat.le_refl _ | omega | (simp; done) | (simp; omega)) _) | (with_reducible refine Kept.trans ?_ (by with_reducible assumption))))⟩
theorem rODelay_any (y m d : Int) (w : World) :
    Calls Tryd.prog 47 #[.agg #[.int .i64 y, .int .i64 m, .int .i64 d]] w fun e' w' => e' = .returned (.tuple #[.int .i64 (dlN y m d), .int .i64 (dlE y m d)]) ∧ Kept w w' := by
  have K1 : Hid (∀ w, Calls Tryd.prog 60 #[.agg #[.int .i64 y, .int .i64 m, .int .i64 d]] w fun e w' => e = .returned (.tuple #[.int .i64 (cN 1 y m d), .int .i64 (cE 1 y m d)]) ∧ Kept w w') := (show ∀ _, _ from fun w => jToDay_all y m d w)
  have K2 : Hid (∀ w, Calls Tryd.prog 51 #[.agg #[.int .i64 y, .int .i64 m, .int .i64 d]] w fun e w' => e = .returned (.tuple #[.int .i64 (cN 2 y m d), .int .i64 (cE 2 y m d)]) ∧ Kept w w') := (show ∀ _, _ from fun w => rToDay_all y m d w)
  have b1 := cN_bounds 1 y m d
  have b2 := cN_bounds 2 y m d
  have r1 := cE_range 1 y m d
  have r2 := cE_range 2 y m d
  have hc := dl_cases y m d
  generalize dlN y m d = N at *
  generalize dlE y m d = E at *
  generalize cN 1 y m d = n1 at *
  generalize cN 2 y m d = n2 at *
  generalize cE 1 y m d = e1 at *
  generalize cE 2 y m d = e2 at *
  rcases hc with ⟨h1, rfl, rfl⟩ | ⟨rfl, h2, rfl, rfl⟩ | ⟨rfl, rfl, rfl, rfl⟩
  · go_enter Tryd.func47, Tryd.ntmps47
    go_wp2_with fail
    (go_at_call 60; refine (K1.out _).mono ?_; rintro e w1 ⟨rfl, hk1⟩)
    have hB1_1 := hk1
    obtain ⟨hc1_1, hf1_1⟩ := kept_cells hB1_1
    have hz1_0_1 : w.heap.size < w1.heap.size := by have := hB1_1.size; simp at this; omega
    go_wp2
    go_ret2
    exact ⟨rfl, (by repeat (first | with_reducible exact Kept.refl _ | with_reducible assumption | with_reducible refine Kept.drew ?_ | with_reducible refine Kept.drewN ?_ _ | with_reducible refine Kept.alloc ?_ _ | (with_reducible refine Kept.setCell ?_ (by first | exact Nat.le_refl _ | omega | (simp; done) | (simp; omega)) _) | (with_reducible refine Kept.trans ?_ (by with_reducible assumption))))⟩
  · go_enter Tryd.func47, Tryd.ntmps47
    go_wp2_with fail
    (go_at_call 60; refine (K1.out _).mono ?_; rintro e w1 ⟨rfl, hk1⟩)
    have hB1_1 := hk1
    obtain ⟨hc1_1, hf1_1⟩ := kept_cells hB1_1
    have hz1_0_1 : w.heap.size < w1.heap.size := by have := hB1_1.size; simp at this; omega
    go_wp2_with fail
    (go_at_call 51; refine (K2.out _).mono ?_; rintro e w2 ⟨rfl, hk2⟩)
    have hB1_2 := Kept.trans hB1_1 hk2
    obtain ⟨hc1_2, hf1_2⟩ := kept_cells hB1_2
    have hz1_0_2 : w.heap.size < w2.heap.size := by have := hB1_2.size; simp at this; omega
    go_wp2
    go_ret2
    exact ⟨rfl, (by repeat (first | with_reducible exact Kept.refl _ | with_reducible assumption | with_reducible refine Kept.drew ?_ | with_reducible refine Kept.drewN ?_ _ | with_reducible refine Kept.alloc ?_ _ | (with_reducible refine Kept.setCell ?_ (by first | exact Nat.le_refl _ | omega | (simp; done) | (simp; omega)) _) | (with_reducible refine Kept.trans ?_ (by with_reducible assumption))))⟩
  · go_enter Tryd.func47, Tryd.ntmps47
    go_wp2_with fail
    (go_at_call 60; refine (K1.out _).mono ?_; rintro e w1 ⟨rfl, hk1⟩)
    have hB1_1 := hk1
    obtain ⟨hc1_1, hf1_1⟩ := kept_cells hB1_1
    have hz1_0_1 : w.heap.size < w1.heap.size := by have := hB1_1.size; simp at this; omega
    go_wp2_with fail
    (go_at_call 51; refine (K2.out _).mono ?_; rintro e w2 ⟨rfl, hk2⟩)
    have hB1_2 := Kept.trans hB1_1 hk2
    obtain ⟨hc1_2, hf1_2⟩ := kept_cells hB1_2
    have hz1_0_2 : w.heap.size < w2.heap.size := by have := hB1_2.size; simp at this; omega
    go_wp2
    go_ret2
    exact ⟨rfl, (by repeat (first | with_reducible exact Kept.refl _ | with_reducible assumption | with_reducible refine Kept.drew ?_ | with_reducible refine Kept.drewN ?_ _ | with_reducible refine Kept.alloc ?_ _ | (with_reducible refine Kept.setCell ?_ (by first | exact Nat.le_refl _ | omega | (simp; done) | (simp; omega)) _) | (with_reducible refine Kept.trans ?_ (by with_reducible assumption))))⟩
/-- The gap. -/
def gpN (y : Int) : Int := if flE 2 y = 0 then esN 1 y - esN 2 y else 0
theorem OGap_any (y : Int) (w : World) (hT : RTab w) :
    Calls Tryd.prog 48 #[.int .i64 y] w fun e' w' => e' = .returned (.tuple #[.int .i64 (gpN y), .int .i64 (flE 2 y)]) ∧ Kept w w' := by
  have KT := Lib.hid (fun w' (k : Kept w w') => hT.kept k)
  have KP := Lib.hid (fun w hT => oPas_any 2 y w hT sm_2)
  clear hT
  by_cases g : flE 2 y = 0
  · have hf := fl_fit 2 y g
    have hf1 : Fit 1 y := by unfold Fit at *; omega
    have hv : esV 2 y = esN 2 y := if_pos g
    have hg : gpN y = esN 1 y - esN 2 y := if_pos g
    have b1 := esN_bounds 1 y hf1
    have b2 := esN_bounds 2 y hf
    have KB := Lib.hid (fun w => But_ok 1 y w hf1)
    rw [(b_date 1 y hf1).1, (b_date 1 y hf1).2] at KB
    have hi := easI_bounds 1 y
    obtain ⟨d1, d2⟩ := day_c 1 y (easI 1 y) hf1 (by omega) (by omega)
    rw [← esN_val] at d2
    have KD := Lib.hid (fun w (h : RTab w) => CToDay_all 1 y (dmo (easI 1 y)) (dda (easI 1 y)) w h.1)
    rw [d1, d2] at KD
    rw [hv, g] at KP
    rw [hg, g]
    clear d1 d2 hv hg g hf hf1 hi
    generalize dmo (easI 1 y) = x2 at *
    generalize dda (easI 1 y) = x3 at *
    generalize esN 1 y = n1 at *
    generalize esN 2 y = n2 at *
    go_enter Tryd.func48, Tryd.ntmps48
    go_wp2_with fail
    (go_at_call 76; refine (KP.out _ (KT.out _ (by repeat (first | with_reducible exact Kept.refl _ | with_reducible assumption | with_reducible refine Kept.drew ?_ | with_reducible refine Kept.drewN ?_ _ | with_reducible refine Kept.alloc ?_ _ | (with_reducible refine Kept.setCell ?_ (by first | exact Nat.le_refl _ | omega | (simp; done) | (simp; omega)) _) | (with_reducible refine Kept.trans ?_ (by with_reducible assumption)))))).mono ?_; rintro e w1 ⟨rfl, hk1⟩)
    go_wp2_with fail
    (go_at_call 54; refine (KB.out _).mono ?_; rintro e w2 ⟨rfl, hk2⟩)
    go_wp2_with fail
    (go_at_call 58; refine (KD.out _ (KT.out _ (by repeat (first | with_reducible exact Kept.refl _ | with_reducible assumption | with_reducible refine Kept.drew ?_ | with_reducible refine Kept.drewN ?_ _ | with_reducible refine Kept.alloc ?_ _ | (with_reducible refine Kept.setCell ?_ (by first | exact Nat.le_refl _ | omega | (simp; done) | (simp; omega)) _) | (with_reducible refine Kept.trans ?_ (by with_reducible assumption)))))).mono ?_; rintro e w3 ⟨rfl, hk3⟩)
    have hB3_3 := hk3
    obtain ⟨hc3_3, hf3_3⟩ := kept_cells hB3_3
    have hz3_0_3 : w2.heap.size < w3.heap.size := by have := hB3_3.size; simp at this; omega
    go_wp2
    go_ret2
    exact ⟨rfl, (by repeat (first | with_reducible exact Kept.refl _ | with_reducible assumption | with_reducible refine Kept.drew ?_ | with_reducible refine Kept.drewN ?_ _ | with_reducible refine Kept.alloc ?_ _ | (with_reducible refine Kept.setCell ?_ (by first | exact Nat.le_refl _ | omega | (simp; done) | (simp; omega)) _) | (with_reducible refine Kept.trans ?_ (by with_reducible assumption))))⟩
  · have hv : esV 2 y = 0 := if_neg g
    have hg : gpN y = 0 := if_neg g
    have hx := fl_range 2 y
    rw [hv] at KP
    rw [hg]
    clear hv hg
    generalize flE 2 y = x at *
    go_enter Tryd.func48, Tryd.ntmps48
    go_wp2_with fail
    (go_at_call 76; refine (KP.out _ (KT.out _ (by repeat (first | with_reducible exact Kept.refl _ | with_reducible assumption | with_reducible refine Kept.drew ?_ | with_reducible refine Kept.drewN ?_ _ | with_reducible refine Kept.alloc ?_ _ | (with_reducible refine Kept.setCell ?_ (by first | exact Nat.le_refl _ | omega | (simp; done) | (simp; omega)) _) | (with_reducible refine Kept.trans ?_ (by with_reducible assumption)))))).mono ?_; rintro e w1 ⟨rfl, hk1⟩)
    go_wp2
    go_ret2
    exact ⟨rfl, (by repeat (first | with_reducible exact Kept.refl _ | with_reducible assumption | with_reducible refine Kept.drew ?_ | with_reducible refine Kept.drewN ?_ _ | with_reducible refine Kept.alloc ?_ _ | (with_reducible refine Kept.setCell ?_ (by first | exact Nat.le_refl _ | omega | (simp; done) | (simp; omega)) _) | (with_reducible refine Kept.trans ?_ (by with_reducible assumption))))⟩
theorem rOGap_ok (y : Int) (w : World) (h : Fit 2 y) :
    Calls Tryd.prog 50 #[.int .i64 y] w fun e' w' => e' = .returned (.int .i64 (esN 1 y - esN 2 y)) ∧ Kept w w' := by
  have hf1 : Fit 1 y := by unfold Fit at *; omega
  have b1 := esN_bounds 1 y hf1
  have b2 := esN_bounds 2 y h
  have K1 := Lib.hid (fun w => rDay_ok 1 y w hf1)
  have K2 := Lib.hid (fun w => rDay_ok 2 y w h)
  clear h hf1
  generalize esN 1 y = n1 at *
  generalize esN 2 y = n2 at *
  go_enter Tryd.func50, Tryd.ntmps50
  go_wp2_with fail
  (go_at_call 37; refine (K1.out _).mono ?_; rintro e w1 ⟨rfl, hk1⟩)
  go_wp2_with fail
  (go_at_call 37; refine (K2.out _).mono ?_; rintro e w2 ⟨rfl, hk2⟩)
  go_wp2
  go_ret
  exact ⟨rfl, (by repeat (first | with_reducible exact Kept.refl _ | with_reducible assumption | with_reducible refine Kept.drew ?_ | with_reducible refine Kept.drewN ?_ _ | with_reducible refine Kept.alloc ?_ _ | (with_reducible refine Kept.setCell ?_ (by first | exact Nat.le_refl _ | omega | (simp; done) | (simp; omega)) _) | (with_reducible refine Kept.trans ?_ (by with_reducible assumption))))⟩
end Go.Proofs.YtliomdnglhjfaaaDoor

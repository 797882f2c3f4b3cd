/- Contracts: package easter: Date, Offset. -/
import Derived.Test.YtliomdnglhjfaaaDoorEas
import Derived.Outline
set_option linter.unusedSimpArgs false
set_option linter.unusedVariables false
set_option linter.unusedSectionVars false
namespace Go.Proofs.YtliomdnglhjfaaaDoor
open Go.ChangeShapes Go.WideShapes Go.ChangeAt Go.RowKit
set_option maxHeartbeats 800000
set_option maxRecDepth 20000

/-- The date of Easter, or zeros. -/
def edY (c y : Int) : Int := if flE c y = 0 then y else 0
def edM (c y : Int) : Int := if flE c y = 0 then dmo (easI c y) else 0
def edD (c y : Int) : Int := if flE c y = 0 then dda (easI c y) else 0
theorem ed_fit (c y : Int) (h : flE c y = 0) : edY c y = y ∧ edM c y = dmo (easI c y) ∧ edD c y = dda (easI c y) := ⟨if_pos h, if_pos h, if_pos h⟩
theorem ed_no (c y : Int) (h : flE c y ≠ 0) : edY c y = 0 ∧ edM c y = 0 ∧ edD c y = 0 := ⟨if_neg h, if_neg h, if_neg h⟩
theorem esN_bounds (c y : Int) (h : Fit c y) : 0 ≤ esN c y ∧ esN c y ≤ 365250000100 := by
  have h1 := esN_val c y
  have h2 := easI_bounds c y
  have h3 := eqN_bounds c y (fit_cal c y h).2.1 (fit_cal c y h).2.2
  omega
theorem EDate_any (c y : Int) (w : World) (hT : RTab w) (hc : Sm c) :
    Calls Tryd.prog 36 #[.int .i64 c, .int .i64 y] w fun e w' => e = .returned (.tuple #[.agg #[.int .i64 (edY c y), .int .i64 (edM c y), .int .i64 (edD c y)], .int .i64 (flE c y)]) ∧ Kept w w' := by
  have KT := Lib.hid (fun w' (k : Kept w w') => hT.kept k)
  have KD := Lib.hid (fun w' h => EDay_any c y w' h hc)
  rcases fl_cases c y with ⟨hf, e0⟩ | ⟨hf, e0⟩ | ⟨hf, e0⟩
  · obtain ⟨a1, a2, a3⟩ := ed_fit c y e0
    have hv : esV c y = esN c y := if_pos e0
    have hb := esN_bounds c y hf
    have hi := easI_bounds c y
    have hfd := fd_day c y (easI c y) hf (by omega) (by omega)
    rw [← esN_val] at hfd
    have KF := Lib.hid (fun w' (k : Kept w w') => CFromDay_all c (esN c y) _ _ _ _ w' (hT.kept k).1 hfd)
    rw [a1, a2, a3, e0]
    rw [hv, e0] at KD
    clear hT hfd hv a1 a2 a3 e0 hf hc
    generalize esN c y = n at *
    generalize dmo (easI c y) = x2 at *
    generalize dda (easI c y) = x3 at *
    go_enter Tryd.func36, Tryd.ntmps36
    go_wp2_with fail
    (go_at_call 35; refine (KD.out _ (KT.out _ (by repeat (first | with_reducible exact Kept.refl _ | with_reducible assumption | with_reducible refine Kept.drew ?_ | with_reducible refine Kept.drewN ?_ _ | with_reducible refine Kept.alloc ?_ _ | (with_reducible refine Kept.setCell ?_ (by first | exact Nat.le_refl _ | omega | (simp; done) | (simp; omega)) _) | (with_reducible refine Kept.trans ?_ (by with_reducible assumption)))))).mono ?_; rintro e w1 ⟨rfl, hk1⟩)
    have hB1_1 := hk1
    obtain ⟨hc1_1, hf1_1⟩ := kept_cells hB1_1
    have hz1_0_1 : w.heap.size < w1.heap.size := by have := hB1_1.size; simp at this; omega
    go_wp2_with fail
    (go_at_call 72; refine (KF.out _ (by repeat (first | with_reducible exact Kept.refl _ | with_reducible assumption | with_reducible refine Kept.drew ?_ | with_reducible refine Kept.drewN ?_ _ | with_reducible refine Kept.alloc ?_ _ | (with_reducible refine Kept.setCell ?_ (by first | exact Nat.le_refl _ | omega | (simp; done) | (simp; omega)) _) | (with_reducible refine Kept.trans ?_ (by with_reducible assumption))))).mono ?_; rintro e w2 ⟨rfl, hk2⟩)
    have hB1_2 := Kept.trans hB1_1 hk2
    obtain ⟨hc1_2, hf1_2⟩ := kept_cells hB1_2
    have hz1_0_2 : w.heap.size < w2.heap.size := by have := hB1_2.size; simp at this; omega
    go_wp2
    exact bodyPost_ret (v := .tuple #[.agg #[.int .i64 y, .int .i64 x2, .int .i64 x3], .int .i64 0]) (by simp [results, Tryd.results36, go_sem, *]) rfl ⟨rfl, (by repeat (first | with_reducible exact Kept.refl _ | with_reducible assumption | with_reducible refine Kept.drew ?_ | with_reducible refine Kept.drewN ?_ _ | with_reducible refine Kept.alloc ?_ _ | (with_reducible refine Kept.setCell ?_ (by first | exact Nat.le_refl _ | omega | (simp; done) | (simp; omega)) _) | (with_reducible refine Kept.trans ?_ (by with_reducible assumption))))⟩
  all_goals
    obtain ⟨a1, a2, a3⟩ := ed_no c y (by omega)
    have hv : esV c y = 0 := by unfold esV; rw [if_neg (by omega)]
    rw [a1, a2, a3, e0]
    rw [hv, e0] at KD
    clear hT hv a1 a2 a3 e0 hf hc
    go_enter Tryd.func36, Tryd.ntmps36
    go_wp2_with fail
    (go_at_call 35; refine (KD.out _ (KT.out _ (by repeat (first | with_reducible exact Kept.refl _ | with_reducible assumption | with_reducible refine Kept.drew ?_ | with_reducible refine Kept.drewN ?_ _ | with_reducible refine Kept.alloc ?_ _ | (with_reducible refine Kept.setCell ?_ (by first | exact Nat.le_refl _ | omega | (simp; done) | (simp; omega)) _) | (with_reducible refine Kept.trans ?_ (by with_reducible assumption)))))).mono ?_; rintro e w1 ⟨rfl, hk1⟩)
    have hB1_1 := hk1
    obtain ⟨hc1_1, hf1_1⟩ := kept_cells hB1_1
    have hz1_0_1 : w.heap.size < w1.heap.size := by have := hB1_1.size; simp at this; omega
    go_wp2
    first
    | exact bodyPost_ret (v := .tuple #[.agg #[.int .i64 0, .int .i64 0, .int .i64 0], .int .i64 1]) (by simp [results, Tryd.results36, go_sem, *]) rfl ⟨rfl, (by repeat (first | with_reducible exact Kept.refl _ | with_reducible assumption | with_reducible refine Kept.drew ?_ | with_reducible refine Kept.drewN ?_ _ | with_reducible refine Kept.alloc ?_ _ | (with_reducible refine Kept.setCell ?_ (by first | exact Nat.le_refl _ | omega | (simp; done) | (simp; omega)) _) | (with_reducible refine Kept.trans ?_ (by with_reducible assumption))))⟩
    | exact bodyPost_ret (v := .tuple #[.agg #[.int .i64 0, .int .i64 0, .int .i64 0], .int .i64 3]) (by simp [results, Tryd.results36, go_sem, *]) rfl ⟨rfl, (by repeat (first | with_reducible exact Kept.refl _ | with_reducible assumption | with_reducible refine Kept.drew ?_ | with_reducible refine Kept.drewN ?_ _ | with_reducible refine Kept.alloc ?_ _ | (with_reducible refine Kept.setCell ?_ (by first | exact Nat.le_refl _ | omega | (simp; done) | (simp; omega)) _) | (with_reducible refine Kept.trans ?_ (by with_reducible assumption))))⟩
def offV (c y m d : Int) : Int := if nmE c y m d = 0 then cN c y m d - esN c y else 0
theorem EOffset_any (c y m d : Int) (w : World) (hT : RTab w) (hc : Sm c) :
    Calls Tryd.prog 39 #[.int .i64 c, .agg #[.int .i64 y, .int .i64 m, .int .i64 d]] w fun e w' => e = .returned (.tuple #[.int .i64 (offV c y m d), .int .i64 (nmE c y m d)]) ∧ Kept w w' := by
  have KT := Lib.hid (fun w' (k : Kept w w') => hT.kept k)
  have KD := Lib.hid (fun w' h => EDay_any c y w' h hc)
  rcases fl_cases c y with ⟨hf, e0⟩ | ⟨hf, e0⟩ | ⟨hf, e0⟩
  · have hv : esV c y = esN c y := if_pos e0
    have hb := esN_bounds c y hf
    have h1 : nmE c y m d = cE c y m d := if_pos e0
    have h2 : offV c y m d = if cE c y m d = 0 then cN c y m d - esN c y else 0 := by unfold offV; rw [h1]
    have hn := cN_bounds c y m d
    have hr := cE_range c y m d
    have KC := Lib.hid (fun w' (h : RTab w') => CToDay_all c y m d w' h.1)
    rw [h1, h2]
    rw [hv, e0] at KD
    clear hT hv e0 hf hc h1 h2
    generalize esN c y = n at *
    generalize cN c y m d = x at *
    generalize cE c y m d = z at *
    by_cases hz : z = 0
    · subst hz
      rw [if_pos rfl]
      go_enter Tryd.func39, Tryd.ntmps39
      go_wp2_with fail
      (go_at_call 35; refine (KD.out _ (KT.out _ (by repeat (first | with_reducible exact Kept.refl _ | with_reducible assumption | with_reducible refine Kept.drew ?_ | with_reducible refine Kept.drewN ?_ _ | with_reducible refine Kept.alloc ?_ _ | (with_reducible refine Kept.setCell ?_ (by first | exact Nat.le_refl _ | omega | (simp; done) | (simp; omega)) _) | (with_reducible refine Kept.trans ?_ (by with_reducible assumption)))))).mono ?_; rintro e w1 ⟨rfl, hk1⟩)
      have hB1_1 := hk1
      obtain ⟨hc1_1, hf1_1⟩ := kept_cells hB1_1
      have hz1_0_1 : w.heap.size < w1.heap.size := by have := hB1_1.size; simp at this; omega
      go_wp2_with fail
      (go_at_call 58; refine (KC.out _ (KT.out _ (by repeat (first | with_reducible exact Kept.refl _ | with_reducible assumption | with_reducible refine Kept.drew ?_ | with_reducible refine Kept.drewN ?_ _ | with_reducible refine Kept.alloc ?_ _ | (with_reducible refine Kept.setCell ?_ (by first | exact Nat.le_refl _ | omega | (simp; done) | (simp; omega)) _) | (with_reducible refine Kept.trans ?_ (by with_reducible assumption)))))).mono ?_; rintro e w2 ⟨rfl, hk2⟩)
      have hB1_2 := Kept.trans hB1_1 hk2
      obtain ⟨hc1_2, hf1_2⟩ := kept_cells hB1_2
      have hz1_0_2 : w.heap.size < w2.heap.size := by have := hB1_2.size; simp at this; omega
      go_wp2
      go_ret2
      exact ⟨rfl, (by repeat (first | with_reducible exact Kept.refl _ | with_reducible assumption | with_reducible refine Kept.drew ?_ | with_reducible refine Kept.drewN ?_ _ | with_reducible refine Kept.alloc ?_ _ | (with_reducible refine Kept.setCell ?_ (by first | exact Nat.le_refl _ | omega | (simp; done) | (simp; omega)) _) | (with_reducible refine Kept.trans ?_ (by with_reducible assumption))))⟩
    · rw [if_neg hz]
      go_enter Tryd.func39, Tryd.ntmps39
      go_wp2_with fail
      (go_at_call 35; refine (KD.out _ (KT.out _ (by repeat (first | with_reducible exact Kept.refl _ | with_reducible assumption | with_reducible refine Kept.drew ?_ | with_reducible refine Kept.drewN ?_ _ | with_reducible refine Kept.alloc ?_ _ | (with_reducible refine Kept.setCell ?_ (by first | exact Nat.le_refl _ | omega | (simp; done) | (simp; omega)) _) | (with_reducible refine Kept.trans ?_ (by with_reducible assumption)))))).mono ?_; rintro e w1 ⟨rfl, hk1⟩)
      have hB1_1 := hk1
      obtain ⟨hc1_1, hf1_1⟩ := kept_cells hB1_1
      have hz1_0_1 : w.heap.size < w1.heap.size := by have := hB1_1.size; simp at this; omega
      go_wp2_with fail
      (go_at_call 58; refine (KC.out _ (KT.out _ (by repeat (first | with_reducible exact Kept.refl _ | with_reducible assumption | with_reducible refine Kept.drew ?_ | with_reducible refine Kept.drewN ?_ _ | with_reducible refine Kept.alloc ?_ _ | (with_reducible refine Kept.setCell ?_ (by first | exact Nat.le_refl _ | omega | (simp; done) | (simp; omega)) _) | (with_reducible refine Kept.trans ?_ (by with_reducible assumption)))))).mono ?_; rintro e w2 ⟨rfl, hk2⟩)
      have hB1_2 := Kept.trans hB1_1 hk2
      obtain ⟨hc1_2, hf1_2⟩ := kept_cells hB1_2
      have hz1_0_2 : w.heap.size < w2.heap.size := by have := hB1_2.size; simp at this; omega
      go_wp2
      go_ret2
      exact ⟨rfl, (by repeat (first | with_reducible exact Kept.refl _ | with_reducible assumption | with_reducible refine Kept.drew ?_ | with_reducible refine Kept.drewN ?_ _ | with_reducible refine Kept.alloc ?_ _ | (with_reducible refine Kept.setCell ?_ (by first | exact Nat.le_refl _ | omega | (simp; done) | (simp; omega)) _) | (with_reducible refine Kept.trans ?_ (by with_reducible assumption))))⟩
  all_goals
    have h1 : nmE c y m d = flE c y := if_neg (by omega)
    have h2 : offV c y m d = 0 := by unfold offV; rw [if_neg (by omega)]
    have hv : esV c y = 0 := by unfold esV; rw [if_neg (by omega)]
    rw [h1, h2, e0]
    rw [hv, e0] at KD
    clear hT hv e0 hf hc h1 h2
    go_enter Tryd.func39, Tryd.ntmps39
    go_wp2_with fail
    (go_at_call 35; refine (KD.out _ (KT.out _ (by repeat (first | with_reducible exact Kept.refl _ | with_reducible assumption | with_reducible refine Kept.drew ?_ | with_reducible refine Kept.drewN ?_ _ | with_reducible refine Kept.alloc ?_ _ | (with_reducible refine Kept.setCell ?_ (by first | exact Nat.le_refl _ | omega | (simp; done) | (simp; omega)) _) | (with_reducible refine Kept.trans ?_ (by with_reducible assumption)))))).mono ?_; rintro e w1 ⟨rfl, hk1⟩)
    have hB1_1 := hk1
    obtain ⟨hc1_1, hf1_1⟩ := kept_cells hB1_1
    have hz1_0_1 : w.heap.size < w1.heap.size := by have := hB1_1.size; simp at this; omega
    go_wp2
    go_ret2
    exact ⟨rfl, (by repeat (first | with_reducible exact Kept.refl _ | with_reducible assumption | with_reducible refine Kept.drew ?_ | with_reducible refine Kept.drewN ?_ _ | with_reducible refine Kept.alloc ?_ _ | (with_reducible refine Kept.setCell ?_ (by first | exact Nat.le_refl _ | omega | (simp; done) | (simp; omega)) _) | (with_reducible refine Kept.trans ?_ (by with_reducible assumption))))⟩
end Go.Proofs.YtliomdnglhjfaaaDoor

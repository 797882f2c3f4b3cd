/- The fixed examples of the laws of layer 13. -/
import Derived.Test.YtliomdnglhjfaaaDoorOrt
set_option linter.unusedSimpArgs false
set_option linter.unusedVariables false
set_option linter.unusedSectionVars false
namespace Go.Proofs.YtliomdnglhjfaaaDoor
open Go.ChangeShapes Go.WideShapes Go.ChangeAt Go.RowKit
set_option maxHeartbeats 1000000
set_option maxRecDepth 20000

theorem fd2 (n y m d : Int) (h : OkD 2 y m d) (e : num 2 y m d = n) : FdC 2 n y m d 0 := .inl ⟨.inr rfl, .inr ⟨h, e, rfl⟩⟩
theorem Ort_awake (w : World) (hT : RTab w) : Calls Tryd.prog 43 #[] w fun e w' => e = .returned (.bool true) ∧ Kept w w' := by
  have KT := Lib.hid (fun w' (k : Kept w w') => hT.kept k)
  have KA := Lib.hid (fun w hT => ODate_any 2024 2024 5 5 0 w hT (.inr ⟨by decide +kernel, fd2 _ _ _ _ (by unfold OkD; decide +kernel) (by decide +kernel)⟩))
  have KG := Lib.hid (fun w hT => OGap_any 2024 w hT)
  rw [show gpN 2024 = 35 from by decide +kernel, show flE 2 2024 = 0 from by decide +kernel] at KG
  have KD := Lib.hid (fun w hT => ODelay_any 2000 1 1 w hT)
  rw [show dlN 2000 1 1 = 13 from by decide +kernel, show dlE 2000 1 1 = 0 from by decide +kernel] at KD
  have KB := Lib.hid (fun w hT => ODate_any 0 0 0 0 1 w hT (.inl ⟨by decide +kernel, rfl, rfl, rfl, by decide +kernel⟩))
  have KE := Lib.hid (fun w hT => ODelay_any 1900 2 29 w hT)
  rw [show dlN 1900 2 29 = 0 from by decide +kernel, show dlE 1900 2 29 = 2 from by decide +kernel] at KE
  clear hT
  go_enter Tryd.func43, Tryd.ntmps43
  go_wp2_with fail
  (go_at_call 44; refine (KA.out _ (KT.out _ (by repeat (first | with_reducible exact Kept.refl _ | with_reducible assumption | with_reducible refine Kept.drew ?_ | with_reducible refine Kept.drewN ?_ _ | with_reducible refine Kept.alloc ?_ _ | (with_reducible refine Kept.setCell ?_ (by first | exact Nat.le_refl _ | omega | (simp; done) | (simp; omega)) _) | (with_reducible refine Kept.trans ?_ (by with_reducible assumption)))))).mono ?_; rintro e w1 ⟨rfl, hk1⟩)
  go_wp2_with fail
  (go_at_call 48; refine (KG.out _ (KT.out _ (by repeat (first | with_reducible exact Kept.refl _ | with_reducible assumption | with_reducible refine Kept.drew ?_ | with_reducible refine Kept.drewN ?_ _ | with_reducible refine Kept.alloc ?_ _ | (with_reducible refine Kept.setCell ?_ (by first | exact Nat.le_refl _ | omega | (simp; done) | (simp; omega)) _) | (with_reducible refine Kept.trans ?_ (by with_reducible assumption)))))).mono ?_; rintro e w2 ⟨rfl, hk2⟩)
  have hB2_2 := hk2
  obtain ⟨hc2_2, hf2_2⟩ := kept_cells hB2_2
  have hz2_0_2 : w1.heap.size < w2.heap.size := by have := hB2_2.size; simp at this; omega
  go_wp2_with fail
  (go_at_call 46; refine (KD.out _ (KT.out _ (by repeat (first | with_reducible exact Kept.refl _ | with_reducible assumption | with_reducible refine Kept.drew ?_ | with_reducible refine Kept.drewN ?_ _ | with_reducible refine Kept.alloc ?_ _ | (with_reducible refine Kept.setCell ?_ (by first | exact Nat.le_refl _ | omega | (simp; done) | (simp; omega)) _) | (with_reducible refine Kept.trans ?_ (by with_reducible assumption)))))).mono ?_; rintro e w3 ⟨rfl, hk3⟩)
  have hB2_3 := Kept.trans hB2_2 hk3
  obtain ⟨hc2_3, hf2_3⟩ := kept_cells hB2_3
  have hz2_0_3 : w1.heap.size < w3.heap.size := by have := hB2_3.size; simp at this; omega
  go_wp2_with fail
  (go_at_call 44; refine (KB.out _ (KT.out _ (by repeat (first | with_reducible exact Kept.refl _ | with_reducible assumption | with_reducible refine Kept.drew ?_ | with_reducible refine Kept.drewN ?_ _ | with_reducible refine Kept.alloc ?_ _ | (with_reducible refine Kept.setCell ?_ (by first | exact Nat.le_refl _ | omega | (simp; done) | (simp; omega)) _) | (with_reducible refine Kept.trans ?_ (by with_reducible assumption)))))).mono ?_; rintro e w4 ⟨rfl, hk4⟩)
  have hB2_4 := Kept.trans hB2_3 hk4
  obtain ⟨hc2_4, hf2_4⟩ := kept_cells hB2_4
  have hz2_0_4 : w1.heap.size < w4.heap.size := by have := hB2_4.size; simp at this; omega
  go_wp2_with fail
  (go_at_call 46; refine (KE.out _ (KT.out _ (by repeat (first | with_reducible exact Kept.refl _ | with_reducible assumption | with_reducible refine Kept.drew ?_ | with_reducible refine Kept.drewN ?_ _ | with_reducible refine Kept.alloc ?_ _ | (with_reducible refine Kept.setCell ?_ (by first | exact Nat.le_refl _ | omega | (simp; done) | (simp; omega)) _) | (with_reducible refine Kept.trans ?_ (by with_reducible assumption)))))).mono ?_; rintro e w5 ⟨rfl, hk5⟩)
  have hB2_5 := Kept.trans (Kept.alloc hB2_4 _) hk5
  have hB5_5 := hk5
  obtain ⟨hc2_5, hf2_5⟩ := kept_cells hB2_5
  have hz2_0_5 : w1.heap.size < w5.heap.size := by have := hB2_5.size; simp at this; omega
  obtain ⟨hc5_5, hf5_5⟩ := kept_cells hB5_5
  have hz5_0_5 : w4.heap.size < w5.heap.size := by have := hB5_5.size; simp at this; omega
  go_wp2
  go_ret
  exact ⟨rfl, (by repeat (first | with_reducible exact Kept.refl _ | with_reducible assumption | with_reducible refine Kept.drew ?_ | with_reducible refine Kept.drewN ?_ _ | with_reducible refine Kept.alloc ?_ _ | (with_reducible refine Kept.setCell ?_ (by first | exact Nat.le_refl _ | omega | (simp; done) | (simp; omega)) _) | (with_reducible refine Kept.trans ?_ (by with_reducible assumption))))⟩
theorem ot_e (y x1 x2 x3 e : Int) (h : OtRel y x1 x2 x3 e) : 0 ≤ e ∧ e ≤ 3 := by
  rcases h with ⟨_, _, _, _, rfl⟩ | ⟨_, ⟨_, ⟨_, _, _, _, rfl⟩ | ⟨_, _, rfl⟩⟩ | ⟨_, _, _, _, rfl⟩⟩
  · exact fl_range 1 y
  all_goals omega
theorem ot_zero (y x1 x2 x3 : Int) (h : OtRel y x1 x2 x3 0) : Fit 1 y ∧ OkD 2 x1 x2 x3 ∧ num 2 x1 x2 x3 = esN 1 y := by
  rcases h with ⟨g, _, _, _, h⟩ | ⟨g, ⟨_, ⟨_, _, _, _, h⟩ | ⟨ho, hn, _⟩⟩ | ⟨_, _, _, _, h⟩⟩
  · exact absurd h.symm g
  · omega
  · exact ⟨fl_fit 1 y g, ho, hn⟩
  · omega
theorem ot_err (y x1 x2 x3 e : Int) (h : OtRel y x1 x2 x3 e) (he : e ≠ 0) : x1 = 0 ∧ x2 = 0 ∧ x3 = 0 := by
  rcases h with ⟨_, a, b, c, _⟩ | ⟨_, ⟨_, ⟨_, a, b, c, _⟩ | ⟨_, _, h⟩⟩ | ⟨_, a, b, c, _⟩⟩
  · exact ⟨a, b, c⟩
  · exact ⟨a, b, c⟩
  · exact absurd h he
  · exact ⟨a, b, c⟩
end Go.Proofs.YtliomdnglhjfaaaDoor

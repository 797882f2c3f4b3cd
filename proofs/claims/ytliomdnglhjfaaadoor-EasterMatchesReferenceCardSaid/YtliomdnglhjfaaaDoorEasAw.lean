/- The fixed examples of the laws of layer 10. -/
import Derived.Test.YtliomdnglhjfaaaDoorEas2
import Derived.Test.YtliomdnglhjfaaaDoorRefP
set_option linter.unusedSimpArgs false
set_option linter.unusedVariables false
set_option linter.unusedSectionVars false
namespace Go.Proofs.YtliomdnglhjfaaaDoor
open Go.ChangeShapes Go.WideShapes Go.ChangeAt Go.RowKit
set_option maxHeartbeats 1000000
set_option maxRecDepth 20000

theorem Eas_awake (w : World) (hT : RTab w) : Calls Tryd.prog 34 #[] w fun e w' => e = .returned (.bool true) ∧ Kept w w' := by
  have KT := Lib.hid (fun w' (k : Kept w w') => hT.kept k)
  have s2 : Sm 2 := by unfold Sm; omega
  have s1 : Sm 1 := by unfold Sm; omega
  have s0 : Sm 0 := by unfold Sm; omega
  have KA := Lib.hid (fun w hT => EDate_any 2 2000 w hT s2)
  rw [show edY 2 2000 = 2000 from by decide +kernel, show edM 2 2000 = 4 from by decide +kernel, show edD 2 2000 = 23 from by decide +kernel, show flE 2 2000 = 0 from by decide +kernel] at KA
  have KB := Lib.hid (fun w hT => EDate_any 1 2000 w hT s1)
  rw [show edY 1 2000 = 2000 from by decide +kernel, show edM 1 2000 = 4 from by decide +kernel, show edD 1 2000 = 17 from by decide +kernel, show flE 1 2000 = 0 from by decide +kernel] at KB
  have KO := Lib.hid (fun w hT => EOffset_any 2 2000 3 8 w hT s2)
  rw [show offV 2 2000 3 8 = -46 from by decide +kernel, show nmE 2 2000 3 8 = 0 from by decide +kernel] at KO
  have KD := Lib.hid (fun w hT => EDay_any 0 2000 w hT s0)
  rw [show esV 0 2000 = 0 from by decide +kernel, show flE 0 2000 = 3 from by decide +kernel] at KD
  clear hT s2 s1 s0
  go_enter Tryd.func34, Tryd.ntmps34
  go_wp2_with fail
  (go_at_call 36; refine (KA.out _ (KT.out _ (by repeat (first | with_reducible exact Kept.refl _ | with_reducible assumption | with_reducible refine Kept.drew ?_ | with_reducible refine Kept.drewN ?_ _ | with_reducible refine Kept.alloc ?_ _ | (with_reducible refine Kept.setCell ?_ (by first | exact Nat.le_refl _ | omega | (simp; done) | (simp; omega)) _) | (with_reducible refine Kept.trans ?_ (by with_reducible assumption)))))).mono ?_; rintro e w1 ⟨rfl, hk1⟩)
  go_wp2_with fail
  (go_at_call 36; refine (KB.out _ (KT.out _ (by repeat (first | with_reducible exact Kept.refl _ | with_reducible assumption | with_reducible refine Kept.drew ?_ | with_reducible refine Kept.drewN ?_ _ | with_reducible refine Kept.alloc ?_ _ | (with_reducible refine Kept.setCell ?_ (by first | exact Nat.le_refl _ | omega | (simp; done) | (simp; omega)) _) | (with_reducible refine Kept.trans ?_ (by with_reducible assumption)))))).mono ?_; rintro e w2 ⟨rfl, hk2⟩)
  have hB2_2 := hk2
  obtain ⟨hc2_2, hf2_2⟩ := kept_cells hB2_2
  have hz2_0_2 : w1.heap.size < w2.heap.size := by have := hB2_2.size; simp at this; omega
  go_wp2_with fail
  (go_at_call 39; refine (KO.out _ (KT.out _ (by repeat (first | with_reducible exact Kept.refl _ | with_reducible assumption | with_reducible refine Kept.drew ?_ | with_reducible refine Kept.drewN ?_ _ | with_reducible refine Kept.alloc ?_ _ | (with_reducible refine Kept.setCell ?_ (by first | exact Nat.le_refl _ | omega | (simp; done) | (simp; omega)) _) | (with_reducible refine Kept.trans ?_ (by with_reducible assumption)))))).mono ?_; rintro e w3 ⟨rfl, hk3⟩)
  have hB2_3 := Kept.trans (Kept.alloc hB2_2 _) hk3
  have hB3_3 := hk3
  obtain ⟨hc2_3, hf2_3⟩ := kept_cells hB2_3
  have hz2_0_3 : w1.heap.size < w3.heap.size := by have := hB2_3.size; simp at this; omega
  obtain ⟨hc3_3, hf3_3⟩ := kept_cells hB3_3
  have hz3_0_3 : w2.heap.size < w3.heap.size := by have := hB3_3.size; simp at this; omega
  go_wp2_with fail
  (go_at_call 35; refine (KD.out _ (KT.out _ (by repeat (first | with_reducible exact Kept.refl _ | with_reducible assumption | with_reducible refine Kept.drew ?_ | with_reducible refine Kept.drewN ?_ _ | with_reducible refine Kept.alloc ?_ _ | (with_reducible refine Kept.setCell ?_ (by first | exact Nat.le_refl _ | omega | (simp; done) | (simp; omega)) _) | (with_reducible refine Kept.trans ?_ (by with_reducible assumption)))))).mono ?_; rintro e w4 ⟨rfl, hk4⟩)
  have hB2_4 := Kept.trans hB2_3 hk4
  have hB3_4 := Kept.trans hB3_3 hk4
  obtain ⟨hc2_4, hf2_4⟩ := kept_cells hB2_4
  have hz2_0_4 : w1.heap.size < w4.heap.size := by have := hB2_4.size; simp at this; omega
  obtain ⟨hc3_4, hf3_4⟩ := kept_cells hB3_4
  have hz3_0_4 : w2.heap.size < w4.heap.size := by have := hB3_4.size; simp at this; omega
  go_wp2
  go_ret
  exact ⟨rfl, (by repeat (first | with_reducible exact Kept.refl _ | with_reducible assumption | with_reducible refine Kept.drew ?_ | with_reducible refine Kept.drewN ?_ _ | with_reducible refine Kept.alloc ?_ _ | (with_reducible refine Kept.setCell ?_ (by first | exact Nat.le_refl _ | omega | (simp; done) | (simp; omega)) _) | (with_reducible refine Kept.trans ?_ (by with_reducible assumption))))⟩
end Go.Proofs.YtliomdnglhjfaaaDoor

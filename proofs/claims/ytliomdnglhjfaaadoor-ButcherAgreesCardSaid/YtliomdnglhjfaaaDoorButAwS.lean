/- The fixed examples of the laws of layer 12. -/
import Derived.Test.YtliomdnglhjfaaaDoorButS
set_option linter.unusedSimpArgs false
set_option linter.unusedVariables false
set_option linter.unusedSectionVars false
namespace Go.Proofs.YtliomdnglhjfaaaDoor
open Go.ChangeShapes Go.WideShapes Go.ChangeAt Go.RowKit
set_option maxHeartbeats 400000

theorem aw_n (w : World) : Calls Tryd.prog 81 #[.int .i64 2, .int .i64 1961] w fun e w' => e = .returned (.tuple #[.int .i64 125, .int .i64 0]) ∧ Kept w w' := by
  have h := Number_ok 2 1961 w (by unfold Fit; omega)
  rwa [show bN 2 1961 = 125 from by decide] at h
theorem aw_d (w : World) : Calls Tryd.prog 54 #[.int .i64 2, .int .i64 1961] w fun e w' => e = .returned (.tuple #[.agg #[.int .i64 1961, .int .i64 4, .int .i64 2], .int .i64 0]) ∧ Kept w w' := by
  have h := But_ok 2 1961 w (by unfold Fit; omega)
  rwa [show bN 2 1961 / 31 = 4 from by decide, show bN 2 1961 % 31 + 1 = 2 from by decide] at h
theorem aw_x (w : World) : Calls Tryd.prog 54 #[.int .i64 1, .int .i64 2024] w fun e w' => e = .returned (.tuple #[.agg #[.int .i64 2024, .int .i64 4, .int .i64 22], .int .i64 0]) ∧ Kept w w' := by
  have h := But_ok 1 2024 w (by unfold Fit; omega)
  rwa [show bN 1 2024 / 31 = 4 from by decide, show bN 1 2024 % 31 + 1 = 22 from by decide] at h

theorem But_awake (w : World) : Calls Tryd.prog 53 #[] w fun e w' => e = .returned (.bool true) ∧ Kept w w' := by
  go_enter Tryd.func53, Tryd.ntmps53
  go_wp2_with fail
  (go_at_call 81; refine (aw_n _).mono ?_; rintro e w1 ⟨rfl, hk1⟩)
  go_wp2_with fail
  (go_at_call 54; refine (aw_d _).mono ?_; rintro e w2 ⟨rfl, hk2⟩)
  go_wp2_with fail
  (go_at_call 54; refine (aw_x _).mono ?_; rintro e w3 ⟨rfl, hk3⟩)
  have hB3_3 := hk3
  obtain ⟨hc3_3, hf3_3⟩ := kept_cells hB3_3
  have hz3_0_3 : w2.heap.size < w3.heap.size := by have := hB3_3.size; simp at this; omega
  go_wp2_with fail
  (go_at_call 54; refine (But_arg _ _ _ (by omega)).mono ?_; rintro e w4 ⟨rfl, hk4⟩)
  have hB3_4 := Kept.trans (Kept.alloc hB3_3 _) hk4
  have hB4_4 := hk4
  obtain ⟨hc3_4, hf3_4⟩ := kept_cells hB3_4
  have hz3_0_4 : w2.heap.size < w4.heap.size := by have := hB3_4.size; simp at this; omega
  obtain ⟨hc4_4, hf4_4⟩ := kept_cells hB4_4
  have hz4_0_4 : w3.heap.size < w4.heap.size := by have := hB4_4.size; simp at this; omega
  go_wp2
  go_ret
  exact ⟨rfl, (by repeat (first | with_reducible exact Kept.refl _ | with_reducible assumption | with_reducible refine Kept.drew ?_ | with_reducible refine Kept.drewN ?_ _ | with_reducible refine Kept.alloc ?_ _ | (with_reducible refine Kept.setCell ?_ (by first | exact Nat.le_refl _ | omega | (simp; done) | (simp; omega)) _) | (with_reducible refine Kept.trans ?_ (by with_reducible assumption))))⟩

end Go.Proofs.YtliomdnglhjfaaaDoor

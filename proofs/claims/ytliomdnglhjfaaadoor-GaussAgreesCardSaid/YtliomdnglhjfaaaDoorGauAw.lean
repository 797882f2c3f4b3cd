/- The fixed examples of the laws of layer 11. -/
import Derived.Test.YtliomdnglhjfaaaDoorGau
set_option linter.unusedSimpArgs false
set_option linter.unusedVariables false
set_option linter.unusedSectionVars false
namespace Go.Proofs.YtliomdnglhjfaaaDoor
open Go.ChangeShapes Go.WideShapes Go.ChangeAt Go.RowKit
set_option maxHeartbeats 400000

theorem gaw_s (w : World) : Calls Tryd.prog 74 #[.int .i64 2, .int .i64 1981] w fun e w' => e = .returned (.tuple #[.agg #[.int .i64 24, .int .i64 5, .int .i64 29, .int .i64 6, .int .i64 1], .int .i64 0]) ∧ Kept w w' := by
  have h := Trace_ok 2 1981 w (by unfold Fit; omega)
  rwa [show gM 2 1981 = 24 from by decide, show gN 2 1981 = 5 from by decide, show gD 2 1981 = 29 from by decide, show gE 2 1981 = 6 from by decide, show gX 2 1981 = 1 from by decide] at h
theorem gaw_d (w : World) : Calls Tryd.prog 42 #[.int .i64 2, .int .i64 1981] w fun e w' => e = .returned (.tuple #[.agg #[.int .i64 1981, .int .i64 4, .int .i64 19], .int .i64 0]) ∧ Kept w w' := by
  have h := Gau_ok 2 1981 w (by unfold Fit; omega)
  rwa [show gMo 2 1981 = 4 from by decide, show gDa 2 1981 = 19 from by decide] at h
theorem gaw_x (w : World) : Calls Tryd.prog 42 #[.int .i64 2, .int .i64 1954] w fun e w' => e = .returned (.tuple #[.agg #[.int .i64 1954, .int .i64 4, .int .i64 18], .int .i64 0]) ∧ Kept w w' := by
  have h := Gau_ok 2 1954 w (by unfold Fit; omega)
  rwa [show gMo 2 1954 = 4 from by decide, show gDa 2 1954 = 18 from by decide] at h

theorem Gau_awake (w : World) : Calls Tryd.prog 41 #[] w fun e w' => e = .returned (.bool true) ∧ Kept w w' := by
  go_enter Tryd.func41, Tryd.ntmps41
  go_wp2_with fail
  (go_at_call 74; refine (gaw_s _).mono ?_; rintro e w1 ⟨rfl, hk1⟩)
  go_wp2_with fail
  (go_at_call 42; refine (gaw_d _).mono ?_; rintro e w2 ⟨rfl, hk2⟩)
  have hB2_2 := hk2
  obtain ⟨hc2_2, hf2_2⟩ := kept_cells hB2_2
  have hz2_0_2 : w1.heap.size < w2.heap.size := by have := hB2_2.size; simp at this; omega
  go_wp2_with fail
  (go_at_call 42; refine (gaw_x _).mono ?_; rintro e w3 ⟨rfl, hk3⟩)
  have hB2_3 := Kept.trans (Kept.alloc hB2_2 _) hk3
  have hB3_3 := hk3
  obtain ⟨hc2_3, hf2_3⟩ := kept_cells hB2_3
  have hz2_0_3 : w1.heap.size < w3.heap.size := by have := hB2_3.size; simp at this; omega
  obtain ⟨hc3_3, hf3_3⟩ := kept_cells hB3_3
  have hz3_0_3 : w2.heap.size < w3.heap.size := by have := hB3_3.size; simp at this; omega
  go_wp2_with fail
  (go_at_call 42; refine (Gau_off _ _ _ (by unfold Off; omega)).mono ?_; rintro e w4 ⟨rfl, hk4⟩)
  have hB2_4 := Kept.trans (Kept.alloc hB2_3 _) hk4
  have hB3_4 := Kept.trans (Kept.alloc hB3_3 _) hk4
  have hB4_4 := hk4
  obtain ⟨hc2_4, hf2_4⟩ := kept_cells hB2_4
  have hz2_0_4 : w1.heap.size < w4.heap.size := by have := hB2_4.size; simp at this; omega
  obtain ⟨hc3_4, hf3_4⟩ := kept_cells hB3_4
  have hz3_0_4 : w2.heap.size < w4.heap.size := by have := hB3_4.size; simp at this; omega
  obtain ⟨hc4_4, hf4_4⟩ := kept_cells hB4_4
  have hz4_0_4 : w3.heap.size < w4.heap.size := by have := hB4_4.size; simp at this; omega
  go_wp2
  go_ret
  exact ⟨rfl, (by repeat (first | with_reducible exact Kept.refl _ | with_reducible assumption | with_reducible refine Kept.drew ?_ | with_reducible refine Kept.drewN ?_ _ | with_reducible refine Kept.alloc ?_ _ | (with_reducible refine Kept.setCell ?_ (by first | exact Nat.le_refl _ | omega | (simp; done) | (simp; omega)) _) | (with_reducible refine Kept.trans ?_ (by with_reducible assumption))))⟩
end Go.Proofs.YtliomdnglhjfaaaDoor

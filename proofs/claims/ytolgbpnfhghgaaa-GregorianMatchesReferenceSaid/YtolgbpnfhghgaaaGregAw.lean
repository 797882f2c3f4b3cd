/- The fixed examples of the laws of layer 3. -/
import Derived.Test.YtolgbpnfhghgaaaDate
import Derived.Test.YtolgbpnfhghgaaaGreg3
set_option linter.unusedSimpArgs false
set_option linter.unusedVariables false
set_option linter.unusedSectionVars false
namespace Go.Proofs.Ytolgbpnfhghgaaa
open Go.ChangeShapes Go.WideShapes Go.ChangeAt Go.RowKit Go.Joins
set_option maxHeartbeats 1000000


theorem gaw1 (w : World) : Calls Try.prog 10 #[.agg #[.int .i64 1582, .int .i64 10, .int .i64 15]] w fun e w' => e = .returned (.tuple #[.int .i64 577736, .int .i64 0]) ∧ Kept w w' := by
  have h := ToDay_ok 1582 10 15 w (by unfold OkD; decide)
  rwa [show num 2 1582 10 15 = 577736 from by decide] at h
theorem gaw2 (w : World) : Calls Try.prog 10 #[.agg #[.int .i64 2000, .int .i64 1, .int .i64 1]] w fun e w' => e = .returned (.tuple #[.int .i64 730120, .int .i64 0]) ∧ Kept w w' := by
  have h := ToDay_ok 2000 1 1 w (by unfold OkD; decide)
  rwa [show num 2 2000 1 1 = 730120 from by decide] at h
theorem Greg_awake (w : World) : Calls Try.prog 9 #[] w fun e w' => e = .returned (.bool true) ∧ Kept w w' := by
  have KT := Lib.hid (fun w => Leap_any 2000 w)
  have KN := Lib.hid (fun w => Leap_any 1900 w)
  rw [show lp 2 2000 = true from by decide] at KT
  rw [show lp 2 1900 = false from by decide] at KN
  go_enter Try.func9, Try.ntmps9
  go_wp2_with fail
  (go_at_call 10; refine (gaw1 _).mono ?_; rintro e w1 ⟨rfl, hk1⟩)
  go_wp2_with fail
  (go_at_call 10; refine (gaw2 _).mono ?_; rintro e w2 ⟨rfl, hk2⟩)
  go_wp2_with fail
  (go_at_call 11; refine (FromDay_ok 1 1 1 1 _ (by unfold OkD; decide) (by decide)).mono ?_; rintro e w3 ⟨rfl, hk3⟩)
  go_wp2_with fail
  (go_at_call 10; refine (ToDay_date 1900 2 29 _ (by omega) (by omega) (by unfold OkD; decide)).mono ?_; rintro e w4 ⟨rfl, hk4⟩)
  have hB4_4 := hk4
  obtain ⟨hc4_4, hf4_4⟩ := kept_cells hB4_4
  have hz4_0_4 : w3.heap.size < w4.heap.size := by have := hB4_4.size; simp at this; omega
  go_wp2_with fail
  (go_at_call 11; refine (FromDay_no _ _ (by omega)).mono ?_; rintro e w5 ⟨rfl, hk5⟩)
  have hB4_5 := Kept.trans hB4_4 hk5
  obtain ⟨hc4_5, hf4_5⟩ := kept_cells hB4_5
  have hz4_0_5 : w3.heap.size < w5.heap.size := by have := hB4_5.size; simp at this; omega
  go_wp2_with fail
  (go_at_call 15; refine (KT.out _).mono ?_; rintro e w1 ⟨rfl, rfl⟩)
  go_wp2_with fail
  (go_at_call 15; refine (KN.out _).mono ?_; rintro e w1 ⟨rfl, rfl⟩)
  go_wp2
  go_ret
  exact ⟨rfl, (by repeat (first | with_reducible exact Kept.refl _ | with_reducible assumption | with_reducible refine Kept.drew ?_ | with_reducible refine Kept.drewN ?_ _ | with_reducible refine Kept.alloc ?_ _ | (with_reducible refine Kept.setCell ?_ (by first | exact Nat.le_refl _ | omega | (simp; done) | (simp; omega)) _) | (with_reducible refine Kept.trans ?_ (by with_reducible assumption))))⟩
end Go.Proofs.Ytolgbpnfhghgaaa

/- Contracts: reference 07: Of, Label. -/
import Derived.Test.YtekgaihdfnhkpaaMoon
import Derived.Outline
set_option linter.unusedSimpArgs false
set_option linter.unusedVariables false
set_option linter.unusedSectionVars false
namespace Go.Proofs.Ytekgaihdfnhkpaa
open Go.ChangeShapes Go.WideShapes Go.ChangeAt Go.RowKit
set_option maxHeartbeats 800000

theorem rEOf_ok (k y : Int) (w : World) (h : Fit k y) :
    Calls Try.prog 66 #[.int .i64 k, .int .i64 y] w fun e w' => e = .returned (.int .i64 (epN k y)) ∧ w = w' := by
  have hy : 1 ≤ y ∧ y ≤ 1000000000 := by unfold Fit at h; omega
  have hg : 1 ≤ glN y ∧ glN y ≤ 19 := by unfold glN; omega
  have hs : -100 ≤ soN y ∧ soN y ≤ 100000000 := by unfold soN; omega
  have hl : -100 ≤ luN y ∧ luN y ≤ 100000000 := by unfold luN; omega
  have KG := Lib.hid (fun w => rGolden_ok y w hy.1 hy.2)
  have KS := Lib.hid (fun w => rSolar_ok y w hy.1 hy.2)
  have KL := Lib.hid (fun w => rLunar_ok y w hy.1 hy.2)
  have KM := Lib.hid (fun n w a b => Mod_any n 30 w a b (by omega) (by omega))
  rcases h with ⟨⟨rfl, h1⟩ | ⟨rfl, h1⟩, h2⟩
  · have he : epN 1 y = (11 * glN y - 3 - 1) % 30 + 1 := by unfold epN epR; rw [if_pos rfl]
    rw [he]
    generalize glN y = g at *
    clear he hs hl KS KL
    by_cases hz : (11 * g - 3) % 30 = 0
    · have hv : (11 * g - 3 - 1) % 30 + 1 = 30 := by omega
      rw [hv]
      clear hv
      go_enter Try.func66, Try.ntmps66
      go_wp2_with first | (go_at_call 67; (with_reducible refine (KG.out _).mono ?_); rintro e w1 ⟨rfl, rfl⟩) | (go_at_call 55; (with_reducible refine (KM.out _ _ (by omega) (by omega)).mono ?_); rintro e w1 ⟨rfl, rfl⟩)
      go_ret
      exact ⟨rfl, rfl⟩
    · have hv : (11 * g - 3 - 1) % 30 + 1 = (11 * g - 3) % 30 := by omega
      rw [hv]
      clear hv
      go_enter Try.func66, Try.ntmps66
      go_wp2_with first | (go_at_call 67; (with_reducible refine (KG.out _).mono ?_); rintro e w1 ⟨rfl, rfl⟩) | (go_at_call 55; (with_reducible refine (KM.out _ _ (by omega) (by omega)).mono ?_); rintro e w1 ⟨rfl, rfl⟩)
      go_ret
      exact ⟨rfl, rfl⟩
  · have he : epN 2 y = (11 * glN y + 20 + luN y - soN y - 1) % 30 + 1 := by unfold epN epR; rw [if_neg (by decide)]
    rw [he]
    generalize glN y = g at *
    generalize soN y = s at *
    generalize luN y = l at *
    clear he
    by_cases hz : (11 * g + 20 + l - s) % 30 = 0
    · have hv : (11 * g + 20 + l - s - 1) % 30 + 1 = 30 := by omega
      rw [hv]
      clear hv
      go_enter Try.func66, Try.ntmps66
      go_wp2_with first | (go_at_call 67; (with_reducible refine (KG.out _).mono ?_); rintro e w1 ⟨rfl, rfl⟩) | (go_at_call 71; (with_reducible refine (KS.out _).mono ?_); rintro e w1 ⟨rfl, rfl⟩) | (go_at_call 70; (with_reducible refine (KL.out _).mono ?_); rintro e w1 ⟨rfl, rfl⟩) | (go_at_call 55; (with_reducible refine (KM.out _ _ (by omega) (by omega)).mono ?_); rintro e w1 ⟨rfl, rfl⟩)
      go_ret
      exact ⟨rfl, rfl⟩
    · have hv : (11 * g + 20 + l - s - 1) % 30 + 1 = (11 * g + 20 + l - s) % 30 := by omega
      rw [hv]
      clear hv
      go_enter Try.func66, Try.ntmps66
      go_wp2_with first | (go_at_call 67; (with_reducible refine (KG.out _).mono ?_); rintro e w1 ⟨rfl, rfl⟩) | (go_at_call 71; (with_reducible refine (KS.out _).mono ?_); rintro e w1 ⟨rfl, rfl⟩) | (go_at_call 70; (with_reducible refine (KL.out _).mono ?_); rintro e w1 ⟨rfl, rfl⟩) | (go_at_call 55; (with_reducible refine (KM.out _ _ (by omega) (by omega)).mono ?_); rintro e w1 ⟨rfl, rfl⟩)
      go_ret
      exact ⟨rfl, rfl⟩
theorem rELabel_ok (k y : Int) (w : World) (h : Fit k y) :
    Calls Try.prog 62 #[.int .i64 k, .int .i64 y] w fun e w' => e = .returned (.int .i64 (labN k y)) ∧ w = w' := by
  have hy : 1 ≤ y ∧ y ≤ 1000000000 := by unfold Fit at h; omega
  have hg : 1 ≤ glN y ∧ glN y ≤ 19 := by unfold glN; omega
  have hE := epN_bounds k y
  have KG := Lib.hid (fun w => rGolden_ok y w hy.1 hy.2)
  have KO := Lib.hid (fun w => rEOf_ok k y w h)
  clear h
  unfold labN
  generalize glN y = g at *
  generalize epN k y = e at *
  by_cases h1 : e = 25
  · subst h1
    by_cases h2 : 11 < g
    · rw [if_pos ⟨rfl, h2⟩]
      go_enter Try.func62, Try.ntmps62
      go_wp2_with first | (go_at_call 67; (with_reducible refine (KG.out _).mono ?_); rintro e w1 ⟨rfl, rfl⟩) | (go_at_call 66; (with_reducible refine (KO.out _).mono ?_); rintro e w1 ⟨rfl, rfl⟩)
      go_ret
      exact ⟨rfl, rfl⟩
    · rw [if_neg (fun g => h2 g.2)]
      go_enter Try.func62, Try.ntmps62
      go_wp2_with first | (go_at_call 67; (with_reducible refine (KG.out _).mono ?_); rintro e w1 ⟨rfl, rfl⟩) | (go_at_call 66; (with_reducible refine (KO.out _).mono ?_); rintro e w1 ⟨rfl, rfl⟩)
      go_ret
      exact ⟨rfl, rfl⟩
  · rw [if_neg (fun g => h1 g.1)]
    go_enter Try.func62, Try.ntmps62
    go_wp2_with first | (go_at_call 67; (with_reducible refine (KG.out _).mono ?_); rintro e w1 ⟨rfl, rfl⟩) | (go_at_call 66; (with_reducible refine (KO.out _).mono ?_); rintro e w1 ⟨rfl, rfl⟩)
    go_ret
    exact ⟨rfl, rfl⟩
end Go.Proofs.Ytekgaihdfnhkpaa

/- Plain: the tables, the method of Gauss and the closed forms have the same result. -/
import Derived.Test.YtekgaihdfnhkpaaMoon
import Derived.Test.YtekgaihdfnhkpaaGau
import Derived.Test.YtekgaihdfnhkpaaButS
set_option linter.unusedSimpArgs false
set_option linter.unusedVariables false
set_option linter.unusedSectionVars false
namespace Go.Proofs.Ytekgaihdfnhkpaa

theorem ep_gD (k y : Int) (h : Fit k y) : epN k y = (22 - gD k y) % 30 + 1 := by
  unfold epN epR gD gM glN luN soN
  rcases h with ⟨⟨rfl, h1⟩ | ⟨rfl, h1⟩, h2⟩
  · rw [if_pos rfl, if_pos rfl]
    omega
  · rw [if_neg (by decide), if_neg (by decide)]
    have e1 : (8 * (y / 100 + 1) + 5) / 25 = (13 + 8 * (y / 100)) / 25 := by omega
    have e2 : 3 * (y / 100 + 1) / 4 = y / 100 - y / 100 / 4 := by omega
    rw [e1, e2]
    clear e1 e2
    generalize (13 + 8 * (y / 100)) / 25 = p
    omega
/-- How much earlier than 21 March + D the full moon of the tables is. -/
def early (k y : Int) : Int := if gD k y = 29 then 1 else if gD k y = 28 ∧ 11 ≤ y % 19 then 1 else 0
theorem moonI_gauss (k y : Int) (h : Fit k y) : moonI k y = gD k y - early k y := by
  have h1 := ep_gD k y h
  have h2 := gD_range k y
  unfold moonI labN early
  rw [h1]
  unfold glN
  generalize gD k y = D at *
  clear h1
  by_cases a : D ≤ 22
  · have e : (22 - D) % 30 + 1 = 23 - D := by omega
    rw [e, if_neg (by omega), if_neg (by omega), if_neg (by omega)]
    unfold offL
    rw [if_pos (by omega)]
    omega
  · have e : (22 - D) % 30 + 1 = 53 - D := by omega
    rw [e]
    by_cases b : D = 29
    · subst b
      rw [if_neg (by omega), if_pos rfl]
      decide
    · rw [if_neg b]
      by_cases c : D = 28
      · subst c
        by_cases g : 11 ≤ y % 19
        · rw [if_pos (by omega), if_pos (by omega)]
          decide
        · rw [if_neg (by omega), if_neg (by omega)]
          decide
      · rw [if_neg (by omega), if_neg (by omega)]
        unfold offL
        rw [if_neg (by omega), if_neg (by omega), if_neg (by omega)]
        omega
theorem week_gE (k y : Int) (h : Fit k y) : (eqN k y + 1 + gD k y + gE k y) % 7 = 0 := by
  rw [eqN_val]
  unfold gE gN fst
  generalize gD k y = D
  have e0 : y + 1 - 1 = y := by omega
  rw [e0]
  rcases h with ⟨⟨rfl, h1⟩ | ⟨rfl, h1⟩, h2⟩
  · rw [if_pos rfl, if_pos rfl]
    omega
  · rw [if_neg (by decide), if_neg (by decide)]
    have e1 : y / 400 = y / 100 / 4 := by omega
    rw [e1]
    omega
theorem gX_early (k y : Int) (h : Fit k y) : (0 < gX k y ↔ early k y = 1 ∧ gE k y = 6) ∧ 0 ≤ early k y ∧ early k y ≤ 1 := by
  have hD := gD_range k y
  refine ⟨?_, by unfold early; split <;> (try split) <;> omega⟩
  rcases h with ⟨⟨rfl, h1⟩ | ⟨rfl, h1⟩, h2⟩
  · have a1 : gD 1 y ≠ 29 := by unfold gD gM; rw [if_pos rfl]; omega
    have a2 : gD 1 y = 28 → ¬ 11 ≤ y % 19 := by unfold gD gM; rw [if_pos rfl]; omega
    have a3 : early 1 y = 0 := by unfold early; rw [if_neg a1, if_neg (fun g => a2 g.1 g.2)]
    rw [a3]
    unfold gX
    rw [if_neg (fun g => absurd g.1 (by decide))]
    omega
  · have hM := gM_range 2 y ⟨.inr ⟨rfl, h1⟩, h2⟩
    have a1 : gD 2 y = 28 → ((11 * gM 2 y + 11) % 30 < 19 ↔ 11 ≤ y % 19) := by
      unfold gD
      generalize gM 2 y = M at *
      intro g
      have b1 : 0 ≤ y % 19 := by omega
      have b2 : y % 19 ≤ 18 := by omega
      generalize y % 19 = a at *
      have e1 : 11 * M + 11 = 19 + a + 30 * (10 - 7 * a + 11 * ((19 * a + M) / 30)) := by omega
      rw [e1, Int.add_mul_emod_self_left]
      omega
    have b3 : (2 : Int) = 2 := rfl
    unfold gX early
    by_cases e6 : gE 2 y = 6
    · rw [if_pos ⟨rfl, e6⟩]
      by_cases c : gD 2 y = 29
      · rw [if_pos c, if_pos c]; omega
      · rw [if_neg c, if_neg c]
        by_cases d : gD 2 y = 28
        · have := a1 d
          by_cases f : 11 ≤ y % 19
          · rw [if_pos ⟨d, this.2 f⟩, if_pos ⟨d, f⟩]; omega
          · rw [if_neg (fun g => f (this.1 g.2)), if_neg (fun g => f g.2)]; omega
        · rw [if_neg (fun g => d g.1), if_neg (fun g => d g.1)]; omega
    · rw [if_neg (fun g => e6 g.2)]; omega
/-- Easter by the method of Gauss. -/
theorem eas_gauss (k y : Int) (h : Fit k y) : easI k y = gR k y - 21 := by
  have h1 := moonI_gauss k y h
  have h2 := week_gE k y h
  obtain ⟨h3, h4, h5⟩ := gX_early k y h
  have h6 := gE_range k y
  have h7 := gD_range k y
  unfold easI gR
  rw [h1]
  by_cases hx : 0 < gX k y
  · rw [if_pos hx]
    have := h3.1 hx
    omega
  · rw [if_neg hx]
    have : ¬ (early k y = 1 ∧ gE k y = 6) := fun g => hx (h3.2 g)
    omega
theorem g_date (k y : Int) (h : Fit k y) : gMo k y = dmo (easI k y) ∧ gDa k y = dda (easI k y) := by
  rw [eas_gauss k y h]
  unfold gMo gDa dmo dda
  by_cases a : 31 < gR k y
  · rw [if_pos a, if_pos a, if_neg (by omega), if_neg (by omega)]
    omega
  · rw [if_neg a, if_neg a, if_pos (by omega), if_pos (by omega)]
    omega
theorem sun25 (b : Int) (h : 0 ≤ b) : (b - (b + 8) / 25 + 1) / 3 = (13 + 8 * b) / 25 := by
  obtain ⟨f, r, rfl, r1, r2⟩ : ∃ f r, b = 25 * f - 8 + r ∧ 0 ≤ r ∧ r ≤ 24 := ⟨(b + 8) / 25, (b + 8) % 25, by omega, by omega, by omega⟩
  have e1 : (25 * f - 8 + r + 8) / 25 = f := by omega
  rw [e1]
  omega
theorem bN_eas (k y : Int) (h : Fit k y) : bN k y = 113 + easI k y := by
  have h0 := eas_gauss k y h
  obtain ⟨h3, h4, h5⟩ := gX_early k y h
  have h6 := gE_range k y
  have h7 := gD_range k y
  rw [h0]
  unfold bN gR
  rcases id h with ⟨⟨rfl, h1⟩ | ⟨rfl, h1⟩, h2⟩
  · rw [if_pos rfl]
    have a3 : gX 1 y = 0 := by unfold gX; rw [if_neg (fun g => absurd g.1 (by decide))]
    rw [a3, if_neg (by omega)]
    have d1 : gD 1 y = (19 * (y % 19) + 15) % 30 := by unfold gD gM; rw [if_pos rfl]
    have d2 : gE 1 y = (2 * (y % 4) + 4 * (y % 7) - gD 1 y + 34) % 7 := by unfold gE gN; rw [if_pos rfl]; omega
    unfold bJ
    rw [← d1, ← d2]
    omega
  · rw [if_neg (by decide)]
    have d1 : bH y = gD 2 y := by
      unfold bH gD gM
      rw [if_neg (by decide), sun25 (y / 100) (by omega)]
      omega
    have d2 : bL y = gE 2 y := by
      unfold bL gE gN
      rw [if_neg (by decide), d1]
      generalize gD 2 y = D
      have e1 : y = 100 * (y / 100) + y % 100 := by omega
      have e2 : y % 4 = y % 100 % 4 := by omega
      have e3 : y % 7 = (2 * (y / 100) + y % 100) % 7 := by omega
      rw [e2, e3]
      generalize y / 100 = b
      generalize y % 100 = c
      omega
    have d3 : (y % 19 + 11 * gD 2 y + 22 * gE 2 y) / 451 = if early 2 y = 1 ∧ gE 2 y = 6 then 1 else 0 := by
      have b1 : 0 ≤ y % 19 := by omega
      have b2 : y % 19 ≤ 18 := by omega
      unfold early
      generalize y % 19 = a at *
      generalize gD 2 y = D at *
      generalize gE 2 y = E at *
      clear h3 h4 h5 h0
      by_cases c : D = 29
      · rw [if_pos c]
        split <;> omega
      · rw [if_neg c]
        by_cases d : D = 28 ∧ 11 ≤ a
        · rw [if_pos d]
          split <;> omega
        · rw [if_neg d]
          rw [if_neg (by omega)]
          omega
    unfold bG
    rw [d1, d2, d3]
    by_cases hx : early 2 y = 1 ∧ gE 2 y = 6
    · rw [if_pos hx, if_pos (h3.2 hx)]
      omega
    · rw [if_neg hx, if_neg (fun g => hx (h3.1 g))]
      omega
theorem b_date (k y : Int) (h : Fit k y) : bN k y / 31 = dmo (easI k y) ∧ bN k y % 31 + 1 = dda (easI k y) := by
  have h1 := easI_bounds k y
  rw [bN_eas k y h]
  unfold dmo dda
  generalize easI k y = i at *
  by_cases a : i ≤ 10
  · rw [if_pos a, if_pos a]; omega
  · rw [if_neg a, if_neg a]; omega
end Go.Proofs.Ytekgaihdfnhkpaa

/- Contracts: package epact: julian, gregorian, formulas, Of, Label. -/
import Derived.Test.YtekgaihdfnhkpaaMoon
import Derived.Maps.OwnSet
import Derived.Outline
set_option linter.unusedSimpArgs false
set_option linter.unusedVariables false
set_option linter.unusedSectionVars false
namespace Go.Proofs.Ytekgaihdfnhkpaa
open Go.ChangeShapes Go.WideShapes Go.ChangeAt Go.RowKit Go.Maps Go.ChangeMaps Go.MapKept
set_option maxHeartbeats 800000
set_option maxRecDepth 20000

/-- How a function of the table reads. -/
def fnElem (v : Value) : Option (DataW Unit × List MemPlace) :=
  match v with
  | .func (.func n) a b => if a.size = 0 ∧ b.size = 0 then some (.lit (.int .i64 n), []) else none
  | .nilFunc => some (.lit (.int .i64 (-1)), [])
  | _ => none
theorem fnElem_inv {v : Value} {n : Nat} {ps : List MemPlace} (h : fnElem v = some (.lit (.int .i64 n), ps)) : v = .func (.func n) #[] #[] := by
  match v, h with
  | .func (.func n1) a b, h =>
    unfold fnElem at h
    by_cases hab : a.size = 0 ∧ b.size = 0
    · simp only [if_pos hab, Option.some.injEq, Prod.mk.injEq, DataW.lit.injEq, Lit.int.injEq, true_and] at h
      have ea : a = #[] := Array.eq_empty_of_size_eq_zero hab.1
      have eb : b = #[] := Array.eq_empty_of_size_eq_zero hab.2
      have en : n1 = n := Int.ofNat.inj h.1
      rw [ea, eb, en]
    · simp only [if_neg hab] at h
      cases h
  | .nilFunc, h =>
    unfold fnElem at h
    simp only [Option.some.injEq, Prod.mk.injEq, DataW.lit.injEq, Lit.int.injEq, true_and] at h
    have := h.1
    omega
theorem law_i : Keyed Try.prog 3 := int_keyed Try.underlying3
theorem zero_f (w : World) : (zeroValue 29).run Try.prog w = .ok .nilFunc w := by kernel_rfl
instance (k y : Int) : Decidable (Fit k y) := by unfold Fit; infer_instance
/-- The error of a calendar and a year. -/
def flE (k y : Int) : Int := if k < 1 ∨ 2 < k then 3 else if Fit k y then 0 else 1
theorem fl_cases (k y : Int) : (Fit k y ∧ flE k y = 0) ∨ (Off k y ∧ flE k y = 1) ∨ ((k < 1 ∨ 2 < k) ∧ flE k y = 3) := by
  unfold flE
  by_cases h : k < 1 ∨ 2 < k
  · rw [if_pos h]; exact .inr (.inr ⟨h, rfl⟩)
  · rw [if_neg h]
    by_cases g : Fit k y
    · rw [if_pos g]; exact .inl ⟨g, rfl⟩
    · rw [if_neg g]
      rcases three_ways k y with a | a | a
      · exact absurd a h
      · exact .inr (.inl ⟨a, rfl⟩)
      · exact absurd a g
theorem Fails_any (k y : Int) (w : World) :
    Calls Try.prog 27 #[.int .i64 k, .int .i64 y] w fun e w' => e = .returned (.int .i64 (flE k y)) ∧ w = w' := by
  rcases fl_cases k y with ⟨h, e⟩ | ⟨h, e⟩ | ⟨h, e⟩
  · rw [e]; exact Fails_ok k y w h
  · rw [e]; exact Fails_off k y w h
  · rw [e]; exact Fails_arg k y w h
theorem ep_arith (n : Int) (h1 : -1000000000 ≤ n) (h2 : n ≤ 1000000000) : wrap64 ((wrap64 ((n - 1).tmod 30 + 30)).tmod 30 + 1) = (n - 1) % 30 + 1 := by
  have hb : -30 < (n - 1).tmod 30 ∧ (n - 1).tmod 30 < 30 ∧ ((n - 1).tmod 30 = (n - 1) % 30 ∨ (n - 1).tmod 30 + 30 = (n - 1) % 30) := by
    by_cases h : 0 ≤ n - 1
    · rw [Int.tmod_eq_emod_of_nonneg h]; omega
    · have a := tmod_neg_bounds (n - 1) 30 (by omega) (by omega)
      have b := tmod_eq (n - 1) 30 (by omega) (by omega)
      by_cases hz : (n - 1).tmod 30 = 0
      · have := b.1 hz; omega
      · have := b.2 hz; omega
  generalize (n - 1).tmod 30 = t at *
  have e1 : wrap64 (t + 30) = t + 30 := by unfold wrap64; omega
  rw [e1, Int.tmod_eq_emod_of_nonneg (by omega)]
  have e2 : wrap64 ((t + 30) % 30 + 1) = (t + 30) % 30 + 1 := by unfold wrap64; omega
  rw [e2]
  omega
def Sm (c : Int) : Prop := -9223372036854775808 ≤ c ∧ c ≤ 9223372036854775807
end Go.Proofs.Ytekgaihdfnhkpaa

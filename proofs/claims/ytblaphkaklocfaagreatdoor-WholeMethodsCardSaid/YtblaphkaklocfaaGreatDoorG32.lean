/- Plain: the calendars that awake asks for, reckoned. -/
import Derived.Test.YtblaphkaklocfaaGreatDoorG25
import Derived.Test.YtblaphkaklocfaaGreatDoorG28
import Derived.Test.YtblaphkaklocfaaGreatDoorG29
set_option linter.unusedSimpArgs false
set_option linter.unusedVariables false
set_option linter.unusedSectionVars false
namespace Go.Proofs.YtblaphkaklocfaaGreatDoor
open Go.ChangeShapes Go.WideShapes Go.ChangeAt Go.RowKit
set_option maxHeartbeats 8000000
set_option maxRecDepth 100000

/-- "annunciation" -/
def sAnn : ByteArray := ⟨#[97, 110, 110, 117, 110, 99, 105, 97, 116, 105, 111, 110]⟩
theorem ev_catB : catB 5 bSeas bFeas = true := by decide +kernel
theorem ev_cat0 : catB 5 [r0] [] = true := by decide +kernel
theorem ev_len : yearLen 2024 = 366 := by decide +kernel
theorem ev_small : ∀ i, i < 366 → (candsY bSeas bFeas 2024 i).length ≤ 20 := by decide +kernel
theorem ev_small0 : ∀ i, i < 366 → (candsY [r0] [] 2024 i).length ≤ 20 := by decide +kernel
def evB : Bool := match movesC 5 bSeas bFeas 2024 with
  | none => false
  | some T => (match whereC (entsC bSeas bFeas 2024 T) sAnn with
    | none => false
    | some d => decide (d.y = 2024) && (decide (d.m = 4) && decide (d.d = 8))) && (entsC bSeas bFeas 2024 T).all (fun e => decide (e.com.length ≤ 100000) && decide (e.omi.length ≤ 100000))
theorem ev_B : evB = true := by decide +kernel
theorem ev_some : ∃ T, movesC 5 bSeas bFeas 2024 = some T ∧ whereC (entsC bSeas bFeas 2024 T) sAnn = some ⟨2024, 4, 8⟩ ∧ ∀ e ∈ entsC bSeas bFeas 2024 T, e.com.length ≤ 100000 ∧ e.omi.length ≤ 100000 := by
  have h := ev_B
  unfold evB at h
  split at h
  · simp at h
  · rename_i T hT
    rw [Bool.and_eq_true] at h
    obtain ⟨h1, h2⟩ := h
    refine ⟨T, hT, ?_, fun e he => ?_⟩
    · split at h1
      · simp at h1
      · rename_i d hd
        simp only [Bool.and_eq_true, decide_eq_true_eq] at h1
        obtain ⟨a, b, c⟩ := d
        obtain ⟨rfl, rfl, rfl⟩ := h1
        exact hd
    · have := List.all_eq_true.1 h2 e he
      simpa using this
theorem ev_none : ∃ T, movesC 5 [r0] [] 2024 = some T := by
  have h : (movesC 5 [r0] [] 2024).isSome = true := by decide +kernel
  exact Option.isSome_iff_exists.1 h
end Go.Proofs.YtblaphkaklocfaaGreatDoor

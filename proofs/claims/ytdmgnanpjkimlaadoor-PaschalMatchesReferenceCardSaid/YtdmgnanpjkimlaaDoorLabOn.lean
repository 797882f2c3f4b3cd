/- Contracts: package label: On, Bears; slices.Index, Contains at ints. -/
import Derived.Test.YtdmgnanpjkimlaaDoorLab
import Derived.Outline
set_option linter.unusedSimpArgs false
set_option linter.unusedVariables false
set_option linter.unusedSectionVars false
namespace Go.Proofs.YtdmgnanpjkimlaaDoor
open Go.ChangeShapes Go.WideShapes Go.ChangeAt Go.RowKit
set_option maxHeartbeats 800000

/-- The labels of the position p of the lunation l. -/
def onL (l p : Int) : List Int :=
  if l % 2 = 0 then (if p = 5 then [31, 25] else [30 - p]) else if p = 4 then [31, 26] else if p = 5 then [25, 24] else if 5 < p then [29 - p] else [30 - p]
theorem On_no (m d : Int) (w : World) (hT : LTab w) (h : ¬ Ex m d) :
    Calls Tryd.prog 32 #[.int .i64 m, .int .i64 d] w fun e w' => e = .returned (.slice none 0 0) ∧ w = w' := by
  have KE := Lib.hid (Position_no m d w hT h)
  clear hT h
  go_enter Tryd.func32, Tryd.ntmps32
  go_wp2_with (go_at_call 56; refine (KE.out).mono ?_; rintro e w1 ⟨rfl, rfl⟩)
  go_ret
  exact ⟨rfl, rfl⟩
theorem On_ok (m d : Int) (w : World) (hT : LTab w) (h : Ex m d) :
    Calls Tryd.prog 32 #[.int .i64 m, .int .i64 d] w fun e w' => e = .returned (.slice (some ⟨w.heap.size, 0, none⟩) (onL (lun (dayN m d)) (psn (dayN m d))).length (onL (lun (dayN m d)) (psn (dayN m d))).length) ∧
      w' = w.alloc (.cells ((onL (lun (dayN m d)) (psn (dayN m d))).map (Value.int .i64)).toArray 3) := by
  have KE := Lib.hid (Position_ok m d w hT h)
  have hl : 0 ≤ lun (dayN m d) ∧ lun (dayN m d) ≤ 12 ∧ 0 ≤ psn (dayN m d) ∧ psn (dayN m d) ≤ 29 := by
    obtain ⟨p1, p2⟩ := dayN_bounds m d h
    unfold lun psn
    by_cases h1 : dayN m d < 354
    · rw [if_pos h1, if_pos h1]
      split <;> omega
    · rw [if_neg h1, if_neg h1]
      omega
  clear hT h
  generalize lun (dayN m d) = l at *
  generalize psn (dayN m d) = p at *
  obtain ⟨l1, l2, p1, p2⟩ := hl
  unfold onL
  by_cases e : l % 2 = 0
  · rw [if_pos e]
    by_cases e5 : p = 5
    · subst e5
      rw [if_pos rfl]
      go_enter Tryd.func32, Tryd.ntmps32
      go_wp2_with (go_at_call 56; refine (KE.out).mono ?_; rintro e w1 ⟨rfl, rfl⟩)
      go_ret
      exact ⟨rfl, rfl⟩
    · rw [if_neg e5]
      go_enter Tryd.func32, Tryd.ntmps32
      go_wp2_with (go_at_call 56; refine (KE.out).mono ?_; rintro e w1 ⟨rfl, rfl⟩)
      go_ret
      exact ⟨rfl, rfl⟩
  · have e1 : l % 2 = 1 := by omega
    rw [if_neg e]
    by_cases e4 : p = 4
    · subst e4
      rw [if_pos rfl]
      go_enter Tryd.func32, Tryd.ntmps32
      go_wp2_with (go_at_call 56; refine (KE.out).mono ?_; rintro e w1 ⟨rfl, rfl⟩)
      go_ret
      exact ⟨rfl, rfl⟩
    · rw [if_neg e4]
      by_cases e5 : p = 5
      · subst e5
        rw [if_pos rfl]
        go_enter Tryd.func32, Tryd.ntmps32
        go_wp2_with (go_at_call 56; refine (KE.out).mono ?_; rintro e w1 ⟨rfl, rfl⟩)
        go_ret
        exact ⟨rfl, rfl⟩
      · rw [if_neg e5]
        by_cases g5 : 5 < p
        · rw [if_pos g5]
          go_enter Tryd.func32, Tryd.ntmps32
          go_wp2_with (go_at_call 56; refine (KE.out).mono ?_; rintro e w1 ⟨rfl, rfl⟩)
          go_ret
          exact ⟨rfl, rfl⟩
        · rw [if_neg g5]
          go_enter Tryd.func32, Tryd.ntmps32
          go_wp2_with (go_at_call 56; refine (KE.out).mono ?_; rintro e w1 ⟨rfl, rfl⟩)
          go_ret
          exact ⟨rfl, rfl⟩
end Go.Proofs.YtdmgnanpjkimlaaDoor

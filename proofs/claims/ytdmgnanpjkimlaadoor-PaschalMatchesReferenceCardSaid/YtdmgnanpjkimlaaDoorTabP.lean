/- Pairs that label.Days lays. -/
import Derived.Test.YtdmgnanpjkimlaaDoorDays2
set_option linter.unusedSimpArgs false
set_option linter.unusedVariables false
set_option linter.unusedSectionVars false
namespace Go.Proofs.YtdmgnanpjkimlaaDoor
open Go.ChangeShapes Go.WideShapes Go.ChangeAt Go.RowKit
set_option maxHeartbeats 1000000

/-- The slice .slice o L.length _ holds the pairs L. -/
def IsPairs (w : World) (o : Option Addr) (L : List (Int × Int)) : Prop := ∀ j, j < L.length → ∃ b, o = some ⟨b, 0, none⟩ ∧ w.cell? ⟨b, 2 * j, none⟩ = some (.int .i64 (L[j]!).1) ∧ w.cell? ⟨b, 2 * j + 1, none⟩ = some (.int .i64 (L[j]!).2)
theorem IsPairs.kept {w w' : World} {o : Option Addr} {L : List (Int × Int)} (h : IsPairs w o L) (k : Kept w w') : IsPairs w' o L := fun j hj => by
  obtain ⟨b, e, hc, hd⟩ := h j hj
  exact ⟨b, e, (k.cell _ _ (lt_cellL hc)).trans hc, (k.cell _ _ (lt_cellL hd)).trans hd⟩
theorem cellsP_len (L : List (Int × Int)) : (cellsP L).length = 2 * L.length := by
  induction L with
  | nil => rfl
  | cons x t ih =>
    have : cellsP (x :: t) = [.int .i64 x.1, .int .i64 x.2] ++ cellsP t := by simp [cellsP]
    rw [this, List.length_append, ih, List.length_cons]
    simp
    omega
theorem cellsP_at (L : List (Int × Int)) (j : Nat) (h : j < L.length) : (cellsP L)[2 * j]? = some (.int .i64 (L[j]!).1) ∧ (cellsP L)[2 * j + 1]? = some (.int .i64 (L[j]!).2) := by
  induction L generalizing j with
  | nil => simp at h
  | cons x t ih =>
    have hx : cellsP (x :: t) = .int .i64 x.1 :: .int .i64 x.2 :: cellsP t := by simp [cellsP]
    rw [hx]
    cases j with
    | zero => simp
    | succ j =>
      have := ih j (by simpa using h)
      rw [show 2 * (j + 1) = 2 * j + 1 + 1 from by omega]
      simpa using this
theorem pairs_of_owns {w : World} {b : Nat} {e : TypeId} {v : Value} {L : List (Int × Int)} (h : w.ownsRow b e 2 v L.length (cellsP L)) :
    ∃ o c, v = .slice o L.length c ∧ IsPairs w o L := by
  have hc := h
  obtain ⟨h1, ⟨rfl, h3⟩ | ⟨g, cap, cur, rfl, h4, h5, h6⟩⟩ := h
  · exact ⟨none, 0, by rw [h3], fun j hj => by omega⟩
  · refine ⟨some ⟨g, 0, none⟩, cap, rfl, fun j hj => ?_⟩
    obtain ⟨p1, p2⟩ := cellsP_at L j hj
    have a1 := hc.cells (g := g) rfl (2 * j) (.int .i64 (L[j]!).1) p1
    have a2 := hc.cells (g := g) rfl (2 * j + 1) (.int .i64 (L[j]!).2) p2
    rw [Addr.add_lit, Nat.zero_add] at a1 a2
    exact ⟨g, rfl, a1, a2⟩
theorem Days_pairs (l : Int) (w : World) (hT : LTab w) :
    Calls Tryd.prog 22 #[.int .i64 l] w fun e w' => ∃ o c, e = .returned (.slice o (bearsL l dayList).length c) ∧ IsPairs w' o (bearsL l dayList) ∧ Kept w w' := by
  refine (Days_of l w hT).mono ?_
  rintro e w' ⟨v, rfl, ho, hk⟩
  obtain ⟨o, c, rfl, hp⟩ := pairs_of_owns ho
  exact ⟨o, c, rfl, hp, hk⟩
theorem bearsL_len (l : Int) : (bearsL l dayList).length ≤ 365 := by
  have := List.length_filter_le (fun p : Int × Int => bears p.1 p.2 l) dayList
  rw [dayList_len] at this
  exact this
end Go.Proofs.YtdmgnanpjkimlaaDoor

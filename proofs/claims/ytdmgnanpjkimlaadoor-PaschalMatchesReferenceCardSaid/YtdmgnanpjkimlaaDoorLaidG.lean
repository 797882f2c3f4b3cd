/- The listed variables of this seat: julian.lengths, label.lengths, label.spans. -/
import Derived.Test.YtdmgnanpjkimlaaDoorCards
import Derived.Test.YtdmgnanpjkimlaaDoorTie
import Derived.Test.YtdmgnanpjkimlaaDoorMoon
import Derived.Deep.DeepHandedRow
import Derived.Lib.LaidTab
set_option linter.unusedSimpArgs false
set_option linter.unusedVariables false
set_option linter.unusedSectionVars false
namespace Go.Proofs.YtdmgnanpjkimlaaDoor
open Go.ChangeShapes Go.WideShapes Go.ChangeAt Go.RowKit

theorem tabIs_of_second {P : Program} {W : World} {name : String} {k : IntKind} {zs : List Int} {x : String × DataW Unit} {rest : List (String × DataW Unit)} {g : Nat} {t e : TypeId} {n : Nat}
    (hg : P.globalNamed name = some g) (hty : (P.globals[g]?).map (·.type) = some t) (ht : P.underlying t = some (.array n e)) (he : P.underlying e = some (.int k)) (hce : P.cellsOf e = 1) (hct : P.cellsOf t = n)
    (h : laidMet P (x :: (name, Lib.tabData k zs) :: rest) W) : Lib.TabIs P W name k zs := by
  obtain ⟨ps, ⟨g0, t0, cs0, fuel0, p0, q0, _, _, _, _, h2, _⟩, _⟩ := h
  obtain ⟨g', t', cs, fuel, p, q, hg', ht', hvar, hd, _, _⟩ := h2
  obtain rfl := Option.some.inj (hg.symm.trans hg')
  obtain rfl := Option.some.inj (hty.symm.trans ht')
  unfold Lib.TabIs
  rw [hvar, ← Lib.cells_of_tab ht he hce hct hd]
theorem tabIs_of_third {P : Program} {W : World} {name : String} {k : IntKind} {zs : List Int} {x y : String × DataW Unit} {rest : List (String × DataW Unit)} {g : Nat} {t e : TypeId} {n : Nat}
    (hg : P.globalNamed name = some g) (hty : (P.globals[g]?).map (·.type) = some t) (ht : P.underlying t = some (.array n e)) (he : P.underlying e = some (.int k)) (hce : P.cellsOf e = 1) (hct : P.cellsOf t = n)
    (h : laidMet P (x :: y :: (name, Lib.tabData k zs) :: rest) W) : Lib.TabIs P W name k zs := by
  obtain ⟨ps, ⟨g0, t0, cs0, fuel0, p0, q0, _, _, _, _, ⟨g1, t1, cs1, fuel1, p1, q1, _, _, _, _, h2, _⟩, _⟩, _⟩ := h
  obtain ⟨g', t', cs, fuel, p, q, hg', ht', hvar, hd, _, _⟩ := h2
  obtain rfl := Option.some.inj (hg.symm.trans hg')
  obtain rfl := Option.some.inj (hty.symm.trans ht')
  unfold Lib.TabIs
  rw [hvar, ← Lib.cells_of_tab ht he hce hct hd]
theorem gTab0 : Tryd.prog.globalNamed "computus/julian.lengths" = some 2 := by kernel_rfl
theorem gTab1 : Tryd.prog.globalNamed "computus/label.lengths" = some 0 := by kernel_rfl
theorem gTab2 : Tryd.prog.globalNamed "computus/label.spans" = some 1 := by kernel_rfl
theorem gTab0Type : (Tryd.prog.globals[2]?).map (·.type) = some 78 := by kernel_rfl
theorem gTab1Type : (Tryd.prog.globals[0]?).map (·.type) = some 78 := by kernel_rfl
theorem gTab2Type : (Tryd.prog.globals[1]?).map (·.type) = some 78 := by kernel_rfl
theorem cellsTab : Tryd.prog.cellsOf 78 = 12 := by kernel_rfl
theorem cellsInt : Tryd.prog.cellsOf 3 = 1 := by kernel_rfl
theorem tab_of {W : World} (h : laidMetH Tryd.prog [("computus/julian.lengths", Rows.laid_computus_julian_lengths), ("computus/label.lengths", Rows.laid_computus_label_lengths), ("computus/label.spans", Rows.laid_computus_label_spans)] W) : RTab W := by
  have hJ : Lib.TabIs Tryd.prog W "computus/julian.lengths" .i64 [31, 28, 31, 30, 31, 30, 31, 31, 30, 31, 30, 31] :=
    Lib.tabIs_of_head (rest := [("computus/label.lengths", Rows.laid_computus_label_lengths), ("computus/label.spans", Rows.laid_computus_label_spans)]) gTab0 gTab0Type Tryd.underlying78 Tryd.underlying3 cellsInt cellsTab h
  have hT : Lib.TabIs Tryd.prog W "computus/label.lengths" .i64 [31, 28, 31, 30, 31, 30, 31, 31, 30, 31, 30, 31] :=
    tabIs_of_second (x := ("computus/julian.lengths", Rows.laid_computus_julian_lengths)) (rest := [("computus/label.spans", Rows.laid_computus_label_spans)]) gTab1 gTab1Type Tryd.underlying78 Tryd.underlying3 cellsInt cellsTab h
  have hS : Lib.TabIs Tryd.prog W "computus/label.spans" .i64 [30, 29, 30, 29, 30, 29, 30, 29, 30, 29, 30, 29] :=
    tabIs_of_third (x := ("computus/julian.lengths", Rows.laid_computus_julian_lengths)) (y := ("computus/label.lengths", Rows.laid_computus_label_lengths)) (rest := []) gTab2 gTab2Type Tryd.underlying78 Tryd.underlying3 cellsInt cellsTab h
  refine ⟨?_, ?_, ?_⟩
  · intro m h1 h2
    have := hJ.cell gTab0 (m - 1).toNat (by simp; omega)
    rw [this]
    rcases month_cases m h1 h2 with rfl | rfl | rfl | rfl | rfl | rfl | rfl | rfl | rfl | rfl | rfl | rfl <;> rfl
  · intro m h1 h2
    have := hT.cell gTab1 (m - 1).toNat (by simp; omega)
    rw [show m.toNat - 1 = (m - 1).toNat from by omega, this]
    rcases month_cases m h1 h2 with rfl | rfl | rfl | rfl | rfl | rfl | rfl | rfl | rfl | rfl | rfl | rfl <;> rfl
  · intro l h1 h2
    have := hS.cell gTab2 l.toNat (by simp; omega)
    rw [this]
    rcases (show l = 0 ∨ l = 1 ∨ l = 2 ∨ l = 3 ∨ l = 4 ∨ l = 5 ∨ l = 6 ∨ l = 7 ∨ l = 8 ∨ l = 9 ∨ l = 10 ∨ l = 11 by omega) with rfl | rfl | rfl | rfl | rfl | rfl | rfl | rfl | rfl | rfl | rfl | rfl <;> rfl
def setCells (xs : Array Value) : Obj → Obj
  | .cells _ t frozen => .cells xs t frozen
  | o => o
def lenCells : Array Value := #[.int .i64 31, .int .i64 28, .int .i64 31, .int .i64 30, .int .i64 31, .int .i64 30, .int .i64 31, .int .i64 31, .int .i64 30, .int .i64 31, .int .i64 30, .int .i64 31]
/-- A world for the witness: the settled one, the tables holding what their initialisers lay. -/
noncomputable def laidWorld (os : Os) : World :=
  { World.holding Tryd.prog os ⟨#[], #[], []⟩ with heap := (((World.holding Tryd.prog os ⟨#[], #[], []⟩).heap.modify 2 (setCells lenCells)).modify 0 (setCells lenCells)).modify 1 (setCells #[.int .i64 30, .int .i64 29, .int .i64 30, .int .i64 29, .int .i64 30, .int .i64 29, .int .i64 30, .int .i64 29, .int .i64 30, .int .i64 29, .int .i64 30, .int .i64 29]) }
end Go.Proofs.YtdmgnanpjkimlaaDoor

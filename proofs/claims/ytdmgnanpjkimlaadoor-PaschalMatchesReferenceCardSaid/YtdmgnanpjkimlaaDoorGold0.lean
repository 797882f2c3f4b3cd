/- Contracts: package golden; weekday.OnOrAfter. -/
import Derived.Test.YtdmgnanpjkimlaaDoorCivS
set_option linter.unusedSimpArgs false
set_option linter.unusedVariables false
set_option linter.unusedSectionVars false
namespace Go.Proofs.YtdmgnanpjkimlaaDoor
open Go.ChangeShapes Go.WideShapes Go.ChangeAt Go.RowKit
set_option maxHeartbeats 800000

def glN (y : Int) : Int := y % 19 + 1
def ceN (y : Int) : Int := y / 100 + 1
def soN (y : Int) : Int := 3 * (y / 100 + 1) / 4 - 12
def luN (y : Int) : Int := (8 * (y / 100 + 1) + 5) / 25 - 5
theorem Golden_ok (y : Int) (w : World) (h : 1 ≤ y) (h' : y ≤ 1000000000) :
    Calls Tryd.prog 24 #[.int .i64 y] w fun e w' => e = .returned (.tuple #[.int .i64 (glN y), .int .i64 0]) ∧ Kept w w' := by
  go_enter Tryd.func24, Tryd.ntmps24
  go_wp2
  go_ret2
  exact ⟨rfl, (by repeat (first | with_reducible exact Kept.refl _ | with_reducible assumption | with_reducible refine Kept.drew ?_ | with_reducible refine Kept.drewN ?_ _ | with_reducible refine Kept.alloc ?_ _ | (with_reducible refine Kept.setCell ?_ (by first | exact Nat.le_refl _ | omega | (simp; done) | (simp; omega)) _) | (with_reducible refine Kept.trans ?_ (by with_reducible assumption))))⟩
theorem Golden_no (y : Int) (w : World) (h : y < 1 ∨ 1000000000 < y) :
    Calls Tryd.prog 24 #[.int .i64 y] w fun e w' => e = .returned (.tuple #[.int .i64 0, .int .i64 1]) ∧ Kept w w' := by
  rcases h with h | h
  all_goals
    go_enter Tryd.func24, Tryd.ntmps24
    go_wp2
    go_ret2
    exact ⟨rfl, (by repeat (first | with_reducible exact Kept.refl _ | with_reducible assumption | with_reducible refine Kept.drew ?_ | with_reducible refine Kept.drewN ?_ _ | with_reducible refine Kept.alloc ?_ _ | (with_reducible refine Kept.setCell ?_ (by first | exact Nat.le_refl _ | omega | (simp; done) | (simp; omega)) _) | (with_reducible refine Kept.trans ?_ (by with_reducible assumption))))⟩
theorem Solar_ok (y : Int) (w : World) (h : 1583 ≤ y) (h' : y ≤ 1000000000) :
    Calls Tryd.prog 79 #[.int .i64 y] w fun e w' => e = .returned (.tuple #[.int .i64 (soN y), .int .i64 0]) ∧ Kept w w' := by
  go_enter Tryd.func79, Tryd.ntmps79
  go_wp2
  go_ret2
  exact ⟨rfl, (by repeat (first | with_reducible exact Kept.refl _ | with_reducible assumption | with_reducible refine Kept.drew ?_ | with_reducible refine Kept.drewN ?_ _ | with_reducible refine Kept.alloc ?_ _ | (with_reducible refine Kept.setCell ?_ (by first | exact Nat.le_refl _ | omega | (simp; done) | (simp; omega)) _) | (with_reducible refine Kept.trans ?_ (by with_reducible assumption))))⟩
theorem Solar_no (y : Int) (w : World) (h : y < 1583 ∨ 1000000000 < y) :
    Calls Tryd.prog 79 #[.int .i64 y] w fun e w' => e = .returned (.tuple #[.int .i64 0, .int .i64 1]) ∧ Kept w w' := by
  rcases h with h | h
  all_goals
    go_enter Tryd.func79, Tryd.ntmps79
    go_wp2
    go_ret2
    exact ⟨rfl, (by repeat (first | with_reducible exact Kept.refl _ | with_reducible assumption | with_reducible refine Kept.drew ?_ | with_reducible refine Kept.drewN ?_ _ | with_reducible refine Kept.alloc ?_ _ | (with_reducible refine Kept.setCell ?_ (by first | exact Nat.le_refl _ | omega | (simp; done) | (simp; omega)) _) | (with_reducible refine Kept.trans ?_ (by with_reducible assumption))))⟩
theorem Lunar_ok (y : Int) (w : World) (h : 1583 ≤ y) (h' : y ≤ 1000000000) :
    Calls Tryd.prog 80 #[.int .i64 y] w fun e w' => e = .returned (.tuple #[.int .i64 (luN y), .int .i64 0]) ∧ Kept w w' := by
  go_enter Tryd.func80, Tryd.ntmps80
  go_wp2
  go_ret2
  exact ⟨rfl, (by repeat (first | with_reducible exact Kept.refl _ | with_reducible assumption | with_reducible refine Kept.drew ?_ | with_reducible refine Kept.drewN ?_ _ | with_reducible refine Kept.alloc ?_ _ | (with_reducible refine Kept.setCell ?_ (by first | exact Nat.le_refl _ | omega | (simp; done) | (simp; omega)) _) | (with_reducible refine Kept.trans ?_ (by with_reducible assumption))))⟩
theorem Lunar_no (y : Int) (w : World) (h : y < 1583 ∨ 1000000000 < y) :
    Calls Tryd.prog 80 #[.int .i64 y] w fun e w' => e = .returned (.tuple #[.int .i64 0, .int .i64 1]) ∧ Kept w w' := by
  rcases h with h | h
  all_goals
    go_enter Tryd.func80, Tryd.ntmps80
    go_wp2
    go_ret2
    exact ⟨rfl, (by repeat (first | with_reducible exact Kept.refl _ | with_reducible assumption | with_reducible refine Kept.drew ?_ | with_reducible refine Kept.drewN ?_ _ | with_reducible refine Kept.alloc ?_ _ | (with_reducible refine Kept.setCell ?_ (by first | exact Nat.le_refl _ | omega | (simp; done) | (simp; omega)) _) | (with_reducible refine Kept.trans ?_ (by with_reducible assumption))))⟩
theorem rGolden_ok (y : Int) (w : World) (h : 1 ≤ y) (h' : y ≤ 1000000000) :
    Calls Tryd.prog 35 #[.int .i64 y] w fun e w' => e = .returned (.int .i64 (glN y)) ∧ w = w' := by
  have HE := Lib.hid (show glN y = y - 19 * (y / 19) + 1 from by unfold glN; omega)
  go_enter Tryd.func35, Tryd.ntmps35
  go_wp2
  go_ret
  exact ⟨by rw [HE.out]; rfl, rfl⟩
theorem rSolar_ok (y : Int) (w : World) (h : 1 ≤ y) (h' : y ≤ 1000000000) :
    Calls Tryd.prog 60 #[.int .i64 y] w fun e w' => e = .returned (.int .i64 (soN y)) ∧ w = w' := by
  go_enter Tryd.func60, Tryd.ntmps60
  go_wp2
  go_ret
  exact ⟨rfl, rfl⟩
theorem rLunar_ok (y : Int) (w : World) (h : 1 ≤ y) (h' : y ≤ 1000000000) :
    Calls Tryd.prog 59 #[.int .i64 y] w fun e w' => e = .returned (.int .i64 (luN y)) ∧ w = w' := by
  go_enter Tryd.func59, Tryd.ntmps59
  go_wp2
  go_ret
  exact ⟨rfl, rfl⟩
end Go.Proofs.YtdmgnanpjkimlaaDoor

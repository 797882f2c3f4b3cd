/- Contracts: references 02 (Next, Less); the shape of a date. -/
import Derived.Test.YtcfgiboknkkheaaDoorRefG
import Derived.Lib.SmallJoins
set_option linter.unusedSimpArgs false
set_option linter.unusedVariables false
set_option linter.unusedSectionVars false
namespace Go.Proofs.YtcfgiboknkkheaaDoor
open Go.ChangeShapes Go.WideShapes Go.ChangeAt Go.RowKit
set_option maxHeartbeats 800000

theorem cells_Date : Tryd.prog.cellsOf 23 = 3 := by kernel_rfl
theorem Less_yes (y m d y' m' d' : Int) (w : World) (h : Before y m d y' m' d') :
    Calls Tryd.prog 18 #[.agg #[.int .i64 y, .int .i64 m, .int .i64 d], .agg #[.int .i64 y', .int .i64 m', .int .i64 d']] w fun e w' => e = .returned (.bool true) ∧ Kept w w' := by
  unfold Before at h
  rcases h with h | ⟨rfl, h | ⟨rfl, h⟩⟩
  · have h1 : (y != y') = true := by simp; omega
    have h2 : decide (y < y') = true := by simp; omega
    go_enter Tryd.func18, Tryd.ntmps18
    go_wp2
    go_ret
    exact ⟨rfl, (by repeat (first | with_reducible exact Kept.refl _ | with_reducible assumption | with_reducible refine Kept.drew ?_ | with_reducible refine Kept.drewN ?_ _ | with_reducible refine Kept.alloc ?_ _ | (with_reducible refine Kept.setCell ?_ (by first | exact Nat.le_refl _ | omega | (simp; done) | (simp; omega)) _) | (with_reducible refine Kept.trans ?_ (by with_reducible assumption))))⟩
  · have h1 : (m != m') = true := by simp; omega
    have h2 : decide (m < m') = true := by simp; omega
    go_enter Tryd.func18, Tryd.ntmps18
    go_wp2
    go_ret
    exact ⟨rfl, (by repeat (first | with_reducible exact Kept.refl _ | with_reducible assumption | with_reducible refine Kept.drew ?_ | with_reducible refine Kept.drewN ?_ _ | with_reducible refine Kept.alloc ?_ _ | (with_reducible refine Kept.setCell ?_ (by first | exact Nat.le_refl _ | omega | (simp; done) | (simp; omega)) _) | (with_reducible refine Kept.trans ?_ (by with_reducible assumption))))⟩
  · have h2 : decide (d < d') = true := by simp; omega
    go_enter Tryd.func18, Tryd.ntmps18
    go_wp2
    go_ret
    exact ⟨rfl, (by repeat (first | with_reducible exact Kept.refl _ | with_reducible assumption | with_reducible refine Kept.drew ?_ | with_reducible refine Kept.drewN ?_ _ | with_reducible refine Kept.alloc ?_ _ | (with_reducible refine Kept.setCell ?_ (by first | exact Nat.le_refl _ | omega | (simp; done) | (simp; omega)) _) | (with_reducible refine Kept.trans ?_ (by with_reducible assumption))))⟩
theorem Less_no (y m d y' m' d' : Int) (w : World) (h : ¬ Before y m d y' m' d') :
    Calls Tryd.prog 18 #[.agg #[.int .i64 y, .int .i64 m, .int .i64 d], .agg #[.int .i64 y', .int .i64 m', .int .i64 d']] w fun e w' => e = .returned (.bool false) ∧ Kept w w' := by
  have h : y' < y ∨ (y = y' ∧ (m' < m ∨ (m = m' ∧ ¬ d < d'))) := by unfold Before at h; omega
  rcases h with h | ⟨rfl, h | ⟨rfl, h⟩⟩
  · have h1 : (y != y') = true := by simp; omega
    have h2 : decide (y < y') = false := by simp; omega
    go_enter Tryd.func18, Tryd.ntmps18
    go_wp2
    go_ret
    exact ⟨rfl, (by repeat (first | with_reducible exact Kept.refl _ | with_reducible assumption | with_reducible refine Kept.drew ?_ | with_reducible refine Kept.drewN ?_ _ | with_reducible refine Kept.alloc ?_ _ | (with_reducible refine Kept.setCell ?_ (by first | exact Nat.le_refl _ | omega | (simp; done) | (simp; omega)) _) | (with_reducible refine Kept.trans ?_ (by with_reducible assumption))))⟩
  · have h1 : (m != m') = true := by simp; omega
    have h2 : decide (m < m') = false := by simp; omega
    go_enter Tryd.func18, Tryd.ntmps18
    go_wp2
    go_ret
    exact ⟨rfl, (by repeat (first | with_reducible exact Kept.refl _ | with_reducible assumption | with_reducible refine Kept.drew ?_ | with_reducible refine Kept.drewN ?_ _ | with_reducible refine Kept.alloc ?_ _ | (with_reducible refine Kept.setCell ?_ (by first | exact Nat.le_refl _ | omega | (simp; done) | (simp; omega)) _) | (with_reducible refine Kept.trans ?_ (by with_reducible assumption))))⟩
  · have h2 : decide (d < d') = false := by simp; omega
    go_enter Tryd.func18, Tryd.ntmps18
    go_wp2
    go_ret
    exact ⟨rfl, (by repeat (first | with_reducible exact Kept.refl _ | with_reducible assumption | with_reducible refine Kept.drew ?_ | with_reducible refine Kept.drewN ?_ _ | with_reducible refine Kept.alloc ?_ _ | (with_reducible refine Kept.setCell ?_ (by first | exact Nat.le_refl _ | omega | (simp; done) | (simp; omega)) _) | (with_reducible refine Kept.trans ?_ (by with_reducible assumption))))⟩
theorem Next_day (b : Bool) (y m d : Int) (w : World) (hy : y ≤ 1000000000) (h0 : 1 ≤ d) (h2 : d < mlen b m) (h3 : mlen b m ≤ 31) :
    Calls Tryd.prog 20 #[.agg #[.int .i64 y, .int .i64 m, .int .i64 d], .bool b] w fun e w' => e = .returned (.agg #[.int .i64 y, .int .i64 m, .int .i64 (d + 1)]) ∧ Kept w w' := by
  go_enter Tryd.func20, Tryd.ntmps20
  go_wp2_with fail
  go_quiet ((go_at_call 48; exact quiet_leftR (rLen_any _ _ _)))
  go_wp2_with fail
  go_wp2
  exact bodyPost_ret (v := .agg #[.int .i64 y, .int .i64 m, .int .i64 (d + 1)]) (by simp [results, Tryd.results20, go_sem, *]) rfl ⟨rfl, (by repeat (first | with_reducible exact Kept.refl _ | with_reducible assumption | with_reducible refine Kept.drew ?_ | with_reducible refine Kept.drewN ?_ _ | with_reducible refine Kept.alloc ?_ _ | (with_reducible refine Kept.setCell ?_ (by first | exact Nat.le_refl _ | omega | (simp; done) | (simp; omega)) _) | (with_reducible refine Kept.trans ?_ (by with_reducible assumption))))⟩
theorem Next_month (b : Bool) (y m d : Int) (w : World) (hy : y ≤ 1000000000) (h0 : 1 ≤ m) (h1 : m < 12) (h2 : mlen b m ≤ d) :
    Calls Tryd.prog 20 #[.agg #[.int .i64 y, .int .i64 m, .int .i64 d], .bool b] w fun e w' => e = .returned (.agg #[.int .i64 y, .int .i64 (m + 1), .int .i64 1]) ∧ Kept w w' := by
  go_enter Tryd.func20, Tryd.ntmps20
  go_wp2_with fail
  go_quiet ((go_at_call 48; exact quiet_leftR (rLen_any _ _ _)))
  go_wp2_with fail
  go_wp2
  exact bodyPost_ret (v := .agg #[.int .i64 y, .int .i64 (m + 1), .int .i64 1]) (by simp [results, Tryd.results20, go_sem, *]) rfl ⟨rfl, (by repeat (first | with_reducible exact Kept.refl _ | with_reducible assumption | with_reducible refine Kept.drew ?_ | with_reducible refine Kept.drewN ?_ _ | with_reducible refine Kept.alloc ?_ _ | (with_reducible refine Kept.setCell ?_ (by first | exact Nat.le_refl _ | omega | (simp; done) | (simp; omega)) _) | (with_reducible refine Kept.trans ?_ (by with_reducible assumption))))⟩
theorem Next_year (b : Bool) (y m d : Int) (w : World) (hy0 : 1 ≤ y) (hy : y ≤ 1000000000) (h1 : 12 ≤ m) (h2 : mlen b m ≤ d) :
    Calls Tryd.prog 20 #[.agg #[.int .i64 y, .int .i64 m, .int .i64 d], .bool b] w fun e w' => e = .returned (.agg #[.int .i64 (y + 1), .int .i64 1, .int .i64 1]) ∧ Kept w w' := by
  go_enter Tryd.func20, Tryd.ntmps20
  go_wp2_with fail
  go_quiet ((go_at_call 48; exact quiet_leftR (rLen_any _ _ _)))
  go_wp2_with fail
  exact bodyPost_ret (v := .agg #[.int .i64 (y + 1), .int .i64 1, .int .i64 1]) (by simp [results, Tryd.results20, go_sem, *]) rfl ⟨rfl, (by repeat (first | with_reducible exact Kept.refl _ | with_reducible assumption | with_reducible refine Kept.drew ?_ | with_reducible refine Kept.drewN ?_ _ | with_reducible refine Kept.alloc ?_ _ | (with_reducible refine Kept.setCell ?_ (by first | exact Nat.le_refl _ | omega | (simp; done) | (simp; omega)) _) | (with_reducible refine Kept.trans ?_ (by with_reducible assumption))))⟩
end Go.Proofs.YtcfgiboknkkheaaDoor

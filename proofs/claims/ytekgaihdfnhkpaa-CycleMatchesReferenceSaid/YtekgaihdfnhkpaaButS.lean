/- (without the reference) Contracts: butcher and its reference. -/
import Derived.Test.YtekgaihdfnhkpaaRefF
import Derived.Outline
set_option linter.unusedSimpArgs false
set_option linter.unusedVariables false
set_option linter.unusedSectionVars false
namespace Go.Proofs.Ytekgaihdfnhkpaa
open Go.ChangeShapes Go.WideShapes Go.ChangeAt Go.RowKit
set_option maxHeartbeats 400000
theorem eql_nilFunc (w : World) : (binOp .eql 64 .nilFunc .nilFunc).run Try.prog w = .ok (.bool true) w := by kernel_rfl
theorem eql_func (w : World) (n : Fn) : (binOp .eql 64 (.func n #[] #[]) .nilFunc).run Try.prog w = .ok (.bool false) w := by kernel_rfl
attribute [local go_sem] eql_nilFunc eql_func

def bJ (y : Int) : Int := (19 * (y % 19) + 15) % 30 + (2 * (y % 4) + 4 * (y % 7) - (19 * (y % 19) + 15) % 30 + 34) % 7 + 114
def bH (y : Int) : Int := (19 * (y % 19) + y / 100 - y / 100 / 4 - (y / 100 - (y / 100 + 8) / 25 + 1) / 3 + 15) % 30
def bL (y : Int) : Int := (32 + 2 * (y / 100 % 4) + 2 * (y % 100 / 4) - bH y - y % 4) % 7
def bG (y : Int) : Int := bH y + bL y - 7 * ((y % 19 + 11 * bH y + 22 * bL y) / 451) + 114
theorem bJ_bounds (y : Int) : 114 ≤ bJ y ∧ bJ y ≤ 149 := by unfold bJ; omega
theorem bH_bounds (y : Int) : 0 ≤ bH y ∧ bH y ≤ 29 := by unfold bH; omega
theorem bL_bounds (y : Int) : 0 ≤ bL y ∧ bL y ≤ 6 := by unfold bL; omega
theorem bG_bounds (y : Int) : 107 ≤ bG y ∧ bG y ≤ 149 := by
  have := bH_bounds y
  have := bL_bounds y
  unfold bG; omega
/-- The number of a year by the closed forms. -/
def bN (k y : Int) : Int := if k = 1 then bJ y else bG y

theorem bN_bounds (k y : Int) : 107 ≤ bN k y ∧ bN k y ≤ 149 := by
  have := bJ_bounds y
  have := bG_bounds y
  unfold bN; split <;> omega

theorem pair_any (a b : Int) (w : World) (ha : 0 ≤ a) (ha' : a ≤ 4611686018427387904) (hb : 1 ≤ b) (hb' : b ≤ 4611686018427387904) :
    Calls Try.prog 46 #[.int .i64 a, .int .i64 b] w fun e w' => e = .returned (.tuple #[.int .i64 (a / b), .int .i64 (a % b)]) ∧ w.drew = w' := by
  go_enter Try.func46, Try.ntmps46
  go_wp2
  go_region
  go_wp2
  go_ret2
  exact ⟨rfl, rfl⟩

theorem julian_any (y : Int) (w : World) (h : 1 ≤ y) (h' : y ≤ 1000000000) :
    Calls Try.prog 63 #[.int .i64 y] w fun e w' => e = .returned (.int .i64 (bJ y)) ∧ w = w' := by
  go_enter Try.func63, Try.ntmps63
  go_wp2
  go_ret
  exact ⟨rfl, rfl⟩

theorem gregorian_any (y : Int) (w : World) (h : 1583 ≤ y) (h' : y ≤ 1000000000) :
    Calls Try.prog 64 #[.int .i64 y] w fun e w' => e = .returned (.int .i64 (bG y)) ∧ Kept w w' := by
  have hH := bH_bounds y
  have hL := bL_bounds y
  unfold bL bH at hL
  unfold bH at hH
  go_enter Try.func64, Try.ntmps64
  go_wp2_with (go_at_call 46; refine (pair_any _ _ _ (by omega) (by omega) (by omega) (by omega)).mono ?_; rintro e w' ⟨rfl, rfl⟩)
  go_ret
  exact ⟨rfl, (by repeat (first | with_reducible exact Kept.refl _ | with_reducible assumption | with_reducible refine Kept.drew ?_ | with_reducible refine Kept.drewN ?_ _ | with_reducible refine Kept.alloc ?_ _ | (with_reducible refine Kept.setCell ?_ (by first | exact Nat.le_refl _ | omega | (simp; done) | (simp; omega)) _) | (with_reducible refine Kept.trans ?_ (by with_reducible assumption))))⟩

theorem Number_arg (k y : Int) (w : World) (h : k < 1 ∨ 2 < k) :
    Calls Try.prog 45 #[.int .i64 k, .int .i64 y] w fun e w' => e = .returned (.tuple #[.int .i64 0, .int .i64 3]) ∧ Kept w w' := by
  rcases h with h | h
  all_goals
    go_enter Try.func45, Try.ntmps45
    go_wp2
    go_ret2
    exact ⟨rfl, (by repeat (first | with_reducible exact Kept.refl _ | with_reducible assumption | with_reducible refine Kept.drew ?_ | with_reducible refine Kept.drewN ?_ _ | with_reducible refine Kept.alloc ?_ _ | (with_reducible refine Kept.setCell ?_ (by first | exact Nat.le_refl _ | omega | (simp; done) | (simp; omega)) _) | (with_reducible refine Kept.trans ?_ (by with_reducible assumption))))⟩
theorem Number_off (k y : Int) (w : World) (h : Off k y) :
    Calls Try.prog 45 #[.int .i64 k, .int .i64 y] w fun e w' => e = .returned (.tuple #[.int .i64 0, .int .i64 1]) ∧ Kept w w' := by
  unfold Off at h
  rcases h with ⟨rfl, h | h⟩ | ⟨rfl, h | h⟩
  all_goals
    go_enter Try.func45, Try.ntmps45
    go_wp2
    go_ret2
    exact ⟨rfl, (by repeat (first | with_reducible exact Kept.refl _ | with_reducible assumption | with_reducible refine Kept.drew ?_ | with_reducible refine Kept.drewN ?_ _ | with_reducible refine Kept.alloc ?_ _ | (with_reducible refine Kept.setCell ?_ (by first | exact Nat.le_refl _ | omega | (simp; done) | (simp; omega)) _) | (with_reducible refine Kept.trans ?_ (by with_reducible assumption))))⟩
theorem Number_ok (k y : Int) (w : World) (h : Fit k y) :
    Calls Try.prog 45 #[.int .i64 k, .int .i64 y] w fun e w' => e = .returned (.tuple #[.int .i64 (bN k y), .int .i64 0]) ∧ Kept w w' := by
  unfold Fit at h
  rcases h with ⟨⟨rfl, h⟩ | ⟨rfl, h⟩, h'⟩
  all_goals
    go_enter Try.func45, Try.ntmps45
    go_wp2_with (first | (go_at_call 64; refine (gregorian_any _ _ h h').mono ?_; rintro e w1 ⟨rfl, hk1⟩) | (go_at_call 63; refine (julian_any _ _ h h').mono ?_; rintro e w1 ⟨rfl, rfl⟩) | (go_at_call 58; go_in))
    go_ret2
    exact ⟨rfl, (by repeat (first | with_reducible exact Kept.refl _ | with_reducible assumption | with_reducible refine Kept.drew ?_ | with_reducible refine Kept.drewN ?_ _ | with_reducible refine Kept.alloc ?_ _ | (with_reducible refine Kept.setCell ?_ (by first | exact Nat.le_refl _ | omega | (simp; done) | (simp; omega)) _) | (with_reducible refine Kept.trans ?_ (by with_reducible assumption))))⟩
theorem But_arg (k y : Int) (w : World) (h : k < 1 ∨ 2 < k) :
    Calls Try.prog 37 #[.int .i64 k, .int .i64 y] w fun e w' => e = .returned (.tuple #[.agg #[.int .i64 0, .int .i64 0, .int .i64 0], .int .i64 3]) ∧ Kept w w' := by
  go_enter Try.func37, Try.ntmps37
  go_wp2_with (go_at_call 45; refine (Number_arg _ _ _ h).mono ?_; rintro e w1 ⟨rfl, hk1⟩; obtain ⟨hc1, hf1⟩ := kept_cells hk1; have hz1 : w.heap.size < w1.heap.size := (by have := hk1.size; simp at this; omega))
  exact bodyPost_ret (v := .tuple #[.agg #[.int .i64 0, .int .i64 0, .int .i64 0], .int .i64 3]) (by simp [results, Try.results37, go_sem, *]) rfl ⟨rfl, (by repeat (first | with_reducible exact Kept.refl _ | with_reducible assumption | with_reducible refine Kept.drew ?_ | with_reducible refine Kept.drewN ?_ _ | with_reducible refine Kept.alloc ?_ _ | (with_reducible refine Kept.setCell ?_ (by first | exact Nat.le_refl _ | omega | (simp; done) | (simp; omega)) _) | (with_reducible refine Kept.trans ?_ (by with_reducible assumption))))⟩

theorem But_off (k y : Int) (w : World) (h : Off k y) :
    Calls Try.prog 37 #[.int .i64 k, .int .i64 y] w fun e w' => e = .returned (.tuple #[.agg #[.int .i64 0, .int .i64 0, .int .i64 0], .int .i64 1]) ∧ Kept w w' := by
  go_enter Try.func37, Try.ntmps37
  go_wp2_with (go_at_call 45; refine (Number_off _ _ _ h).mono ?_; rintro e w1 ⟨rfl, hk1⟩; obtain ⟨hc1, hf1⟩ := kept_cells hk1; have hz1 : w.heap.size < w1.heap.size := (by have := hk1.size; simp at this; omega))
  exact bodyPost_ret (v := .tuple #[.agg #[.int .i64 0, .int .i64 0, .int .i64 0], .int .i64 1]) (by simp [results, Try.results37, go_sem, *]) rfl ⟨rfl, (by repeat (first | with_reducible exact Kept.refl _ | with_reducible assumption | with_reducible refine Kept.drew ?_ | with_reducible refine Kept.drewN ?_ _ | with_reducible refine Kept.alloc ?_ _ | (with_reducible refine Kept.setCell ?_ (by first | exact Nat.le_refl _ | omega | (simp; done) | (simp; omega)) _) | (with_reducible refine Kept.trans ?_ (by with_reducible assumption))))⟩

theorem But_ok (k y : Int) (w : World) (h : Fit k y) :
    Calls Try.prog 37 #[.int .i64 k, .int .i64 y] w fun e w' => e = .returned (.tuple #[.agg #[.int .i64 y, .int .i64 (bN k y / 31), .int .i64 (bN k y % 31 + 1)], .int .i64 0]) ∧ Kept w w' := by
  have hN := bN_bounds k y
  go_enter Try.func37, Try.ntmps37
  go_wp2_with (first | (go_at_call 45; refine (Number_ok _ _ _ h).mono ?_; rintro e w1 ⟨rfl, hk1⟩; obtain ⟨hc1, hf1⟩ := kept_cells hk1; have hz1 : w.heap.size < w1.heap.size := (by have := hk1.size; simp at this; omega)) | (go_at_call 46; refine (pair_any _ _ _ (by omega) (by omega) (by omega) (by omega)).mono ?_; rintro e w1 ⟨rfl, rfl⟩))
  exact bodyPost_ret (v := .tuple #[.agg #[.int .i64 y, .int .i64 (bN k y / 31), .int .i64 (bN k y % 31 + 1)], .int .i64 0]) (by simp [results, Try.results37, go_sem, *]) rfl ⟨rfl, (by repeat (first | with_reducible exact Kept.refl _ | with_reducible assumption | with_reducible refine Kept.drew ?_ | with_reducible refine Kept.drewN ?_ _ | with_reducible refine Kept.alloc ?_ _ | (with_reducible refine Kept.setCell ?_ (by first | exact Nat.le_refl _ | omega | (simp; done) | (simp; omega)) _) | (with_reducible refine Kept.trans ?_ (by with_reducible assumption))))⟩
end Go.Proofs.Ytekgaihdfnhkpaa

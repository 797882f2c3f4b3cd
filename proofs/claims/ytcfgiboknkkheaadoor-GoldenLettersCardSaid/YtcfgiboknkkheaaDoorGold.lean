/- Contracts: package golden and its reference; weekday.OnOrAfter. -/
import Derived.Test.YtcfgiboknkkheaaDoorCiv3
import Derived.Test.YtcfgiboknkkheaaDoorRefF0
import Derived.Test.YtcfgiboknkkheaaDoorLaid05
set_option linter.unusedSimpArgs false
set_option linter.unusedVariables false
set_option linter.unusedSectionVars false
namespace Go.Proofs.YtcfgiboknkkheaaDoor
open Go.ChangeShapes Go.WideShapes Go.ChangeAt Go.RowKit
set_option maxHeartbeats 800000

def glN (y : Int) : Int := y % 19 + 1
def ceN (y : Int) : Int := y / 100 + 1
def soN (y : Int) : Int := 3 * (y / 100 + 1) / 4 - 12
def luN (y : Int) : Int := (8 * (y / 100 + 1) + 5) / 25 - 5
theorem Golden_ok (y : Int) (w : World) (h : 1 ≤ y) (h' : y ≤ 1000000000) :
    Calls Tryd.prog 23 #[.int .i64 y] w fun e w' => e = .returned (.tuple #[.int .i64 (glN y), .int .i64 0]) ∧ Kept w w' := by
  go_enter Tryd.func23, Tryd.ntmps23
  go_wp2
  go_ret2
  exact ⟨rfl, (by repeat (first | with_reducible exact Kept.refl _ | with_reducible assumption | with_reducible refine Kept.drew ?_ | with_reducible refine Kept.drewN ?_ _ | with_reducible refine Kept.alloc ?_ _ | (with_reducible refine Kept.setCell ?_ (by first | exact Nat.le_refl _ | omega | (simp; done) | (simp; omega)) _) | (with_reducible refine Kept.trans ?_ (by with_reducible assumption))))⟩
theorem Golden_no (y : Int) (w : World) (h : y < 1 ∨ 1000000000 < y) :
    Calls Tryd.prog 23 #[.int .i64 y] w fun e w' => e = .returned (.tuple #[.int .i64 0, .int .i64 1]) ∧ Kept w w' := by
  rcases h with h | h
  all_goals
    go_enter Tryd.func23, Tryd.ntmps23
    go_wp2
    go_ret2
    exact ⟨rfl, (by repeat (first | with_reducible exact Kept.refl _ | with_reducible assumption | with_reducible refine Kept.drew ?_ | with_reducible refine Kept.drewN ?_ _ | with_reducible refine Kept.alloc ?_ _ | (with_reducible refine Kept.setCell ?_ (by first | exact Nat.le_refl _ | omega | (simp; done) | (simp; omega)) _) | (with_reducible refine Kept.trans ?_ (by with_reducible assumption))))⟩
theorem Century_ok (y : Int) (w : World) (h : 1 ≤ y) (h' : y ≤ 1000000000) :
    Calls Tryd.prog 33 #[.int .i64 y] w fun e w' => e = .returned (.tuple #[.int .i64 (ceN y), .int .i64 0]) ∧ Kept w w' := by
  go_enter Tryd.func33, Tryd.ntmps33
  go_wp2
  go_ret2
  exact ⟨rfl, (by repeat (first | with_reducible exact Kept.refl _ | with_reducible assumption | with_reducible refine Kept.drew ?_ | with_reducible refine Kept.drewN ?_ _ | with_reducible refine Kept.alloc ?_ _ | (with_reducible refine Kept.setCell ?_ (by first | exact Nat.le_refl _ | omega | (simp; done) | (simp; omega)) _) | (with_reducible refine Kept.trans ?_ (by with_reducible assumption))))⟩
theorem Century_no (y : Int) (w : World) (h : y < 1 ∨ 1000000000 < y) :
    Calls Tryd.prog 33 #[.int .i64 y] w fun e w' => e = .returned (.tuple #[.int .i64 0, .int .i64 1]) ∧ Kept w w' := by
  rcases h with h | h
  all_goals
    go_enter Tryd.func33, Tryd.ntmps33
    go_wp2
    go_ret2
    exact ⟨rfl, (by repeat (first | with_reducible exact Kept.refl _ | with_reducible assumption | with_reducible refine Kept.drew ?_ | with_reducible refine Kept.drewN ?_ _ | with_reducible refine Kept.alloc ?_ _ | (with_reducible refine Kept.setCell ?_ (by first | exact Nat.le_refl _ | omega | (simp; done) | (simp; omega)) _) | (with_reducible refine Kept.trans ?_ (by with_reducible assumption))))⟩
theorem Solar_ok (y : Int) (w : World) (h : 1583 ≤ y) (h' : y ≤ 1000000000) :
    Calls Tryd.prog 24 #[.int .i64 y] w fun e w' => e = .returned (.tuple #[.int .i64 (soN y), .int .i64 0]) ∧ Kept w w' := by
  go_enter Tryd.func24, Tryd.ntmps24
  go_wp2
  go_ret2
  exact ⟨rfl, (by repeat (first | with_reducible exact Kept.refl _ | with_reducible assumption | with_reducible refine Kept.drew ?_ | with_reducible refine Kept.drewN ?_ _ | with_reducible refine Kept.alloc ?_ _ | (with_reducible refine Kept.setCell ?_ (by first | exact Nat.le_refl _ | omega | (simp; done) | (simp; omega)) _) | (with_reducible refine Kept.trans ?_ (by with_reducible assumption))))⟩
theorem Solar_no (y : Int) (w : World) (h : y < 1583 ∨ 1000000000 < y) :
    Calls Tryd.prog 24 #[.int .i64 y] w fun e w' => e = .returned (.tuple #[.int .i64 0, .int .i64 1]) ∧ Kept w w' := by
  rcases h with h | h
  all_goals
    go_enter Tryd.func24, Tryd.ntmps24
    go_wp2
    go_ret2
    exact ⟨rfl, (by repeat (first | with_reducible exact Kept.refl _ | with_reducible assumption | with_reducible refine Kept.drew ?_ | with_reducible refine Kept.drewN ?_ _ | with_reducible refine Kept.alloc ?_ _ | (with_reducible refine Kept.setCell ?_ (by first | exact Nat.le_refl _ | omega | (simp; done) | (simp; omega)) _) | (with_reducible refine Kept.trans ?_ (by with_reducible assumption))))⟩
theorem Lunar_ok (y : Int) (w : World) (h : 1583 ≤ y) (h' : y ≤ 1000000000) :
    Calls Tryd.prog 25 #[.int .i64 y] w fun e w' => e = .returned (.tuple #[.int .i64 (luN y), .int .i64 0]) ∧ Kept w w' := by
  go_enter Tryd.func25, Tryd.ntmps25
  go_wp2
  go_ret2
  exact ⟨rfl, (by repeat (first | with_reducible exact Kept.refl _ | with_reducible assumption | with_reducible refine Kept.drew ?_ | with_reducible refine Kept.drewN ?_ _ | with_reducible refine Kept.alloc ?_ _ | (with_reducible refine Kept.setCell ?_ (by first | exact Nat.le_refl _ | omega | (simp; done) | (simp; omega)) _) | (with_reducible refine Kept.trans ?_ (by with_reducible assumption))))⟩
theorem Lunar_no (y : Int) (w : World) (h : y < 1583 ∨ 1000000000 < y) :
    Calls Tryd.prog 25 #[.int .i64 y] w fun e w' => e = .returned (.tuple #[.int .i64 0, .int .i64 1]) ∧ Kept w w' := by
  rcases h with h | h
  all_goals
    go_enter Tryd.func25, Tryd.ntmps25
    go_wp2
    go_ret2
    exact ⟨rfl, (by repeat (first | with_reducible exact Kept.refl _ | with_reducible assumption | with_reducible refine Kept.drew ?_ | with_reducible refine Kept.drewN ?_ _ | with_reducible refine Kept.alloc ?_ _ | (with_reducible refine Kept.setCell ?_ (by first | exact Nat.le_refl _ | omega | (simp; done) | (simp; omega)) _) | (with_reducible refine Kept.trans ?_ (by with_reducible assumption))))⟩
theorem OnOrAfter_ok (n d : Int) (w : World) (h : -1099511627776 ≤ n) (h' : n ≤ 1099511627776) (h1 : 0 ≤ d) (h2 : d < 7) :
    Calls Tryd.prog 58 #[.int .i64 n, .int .i64 d] w fun e w' => e = .returned (.tuple #[.int .i64 (n + (d - n) % 7), .int .i64 0]) ∧ Kept w w' := by
  go_enter Tryd.func58, Tryd.ntmps58
  go_wp2_with (first | (go_at_call 75; go_in) | (go_at_call 60; refine (WOf_any _ _ (by omega) (by omega)).mono ?_; rintro e w1 ⟨rfl, rfl⟩))
  go_ret2
  exact ⟨rfl, (by repeat (first | with_reducible exact Kept.refl _ | with_reducible assumption | with_reducible refine Kept.drew ?_ | with_reducible refine Kept.drewN ?_ _ | with_reducible refine Kept.alloc ?_ _ | (with_reducible refine Kept.setCell ?_ (by first | exact Nat.le_refl _ | omega | (simp; done) | (simp; omega)) _) | (with_reducible refine Kept.trans ?_ (by with_reducible assumption))))⟩
/-- The dominical letters. -/
def ltA (c y : Int) : Int := if ylE c y = 0 then -fst c y % 7 + 1 else 0
def ltB (c y : Int) : Int := if ylE c y = 0 then (if lp c y then (ltA c y + 5) % 7 + 1 else ltA c y) else 0
theorem lt_cases (c y : Int) : (1 ≤ ylE c y ∧ ltA c y = 0 ∧ ltB c y = 0) ∨ (ylE c y = 0 ∧ IsCal c ∧ 1 ≤ y ∧ y ≤ 1000000000 ∧ ltA c y = -fst c y % 7 + 1 ∧ ((lp c y = true ∧ ylN c y = 366 ∧ ltB c y = (-fst c y % 7 + 1 + 5) % 7 + 1) ∨ (lp c y = false ∧ ylN c y = 365 ∧ ltB c y = -fst c y % 7 + 1))) := by
  unfold ltB ltA
  rcases yl_cases c y with ⟨_, _, a⟩ | ⟨_, _, _, a⟩ | ⟨h, h1, h2, b, a⟩
  · rw [a]; exact .inl ⟨by omega, if_neg (by omega), if_neg (by omega)⟩
  · rw [a]; exact .inl ⟨by omega, if_neg (by omega), if_neg (by omega)⟩
  · rw [a, if_pos rfl, if_pos rfl]
    refine .inr ⟨rfl, h, h1, h2, rfl, ?_⟩
    cases hl : lp c y
    · exact .inr ⟨rfl, by rw [b, hl]; rfl, rfl⟩
    · exact .inl ⟨rfl, by rw [b, hl]; rfl, rfl⟩
theorem jan1 (c y : Int) (h : IsCal c) (h1 : 1 ≤ y) (h2 : y ≤ 1000000000) : OkD c y 1 1 ∧ num c y 1 1 = fst c y := by
  refine ⟨⟨h1, h2, by omega, by omega, by omega, by have := mlen_bounds (lp c y) 1 (by omega) (by omega); omega⟩, by unfold num; rw [cum_1]; omega⟩
theorem Letters_all (c y : Int) (w : World) (hT : Tab w) :
    Calls Tryd.prog 27 #[.int .i64 c, .int .i64 y] w fun e w' => e = .returned (.tuple #[.int .i64 (ltA c y), .int .i64 (ltB c y), .int .i64 (ylE c y)]) ∧ Kept w w' := by
  have KT := Lib.hid (fun w' (k : Kept w w') => hT.kept k)
  have KY := Lib.hid (fun w hT => YearLength_all c y w hT)
  clear hT
  rcases lt_cases c y with ⟨h, e1, e2⟩ | ⟨h, hc, h1, h2, e1, hb⟩
  · rw [e1, e2]
    clear e1 e2
    go_enter Tryd.func27, Tryd.ntmps27
    go_wp2_with fail
    (go_at_call 16; refine (KY.out _ (KT.out _ (by repeat (first | with_reducible exact Kept.refl _ | with_reducible assumption | with_reducible refine Kept.drew ?_ | with_reducible refine Kept.drewN ?_ _ | with_reducible refine Kept.alloc ?_ _ | (with_reducible refine Kept.setCell ?_ (by first | exact Nat.le_refl _ | omega | (simp; done) | (simp; omega)) _) | (with_reducible refine Kept.trans ?_ (by with_reducible assumption)))))).mono ?_; rintro e w1 ⟨rfl, hk1⟩)
    go_wp2
    go_ret3
    exact ⟨rfl, (by repeat (first | with_reducible exact Kept.refl _ | with_reducible assumption | with_reducible refine Kept.drew ?_ | with_reducible refine Kept.drewN ?_ _ | with_reducible refine Kept.alloc ?_ _ | (with_reducible refine Kept.setCell ?_ (by first | exact Nat.le_refl _ | omega | (simp; done) | (simp; omega)) _) | (with_reducible refine Kept.trans ?_ (by with_reducible assumption))))⟩
  · obtain ⟨j1, j2⟩ := jan1 c y hc h1 h2
    obtain ⟨f1, f2⟩ := fst_bounds c y h1 (by omega)
    have KD := Lib.hid (fun w hT => CToDay_all c y 1 1 w hT)
    have hcz : cN c y 1 1 = num c y 1 1 ∧ cE c y 1 1 = 0 := by
      rcases c_cases c y 1 1 with ⟨_, _, a, b⟩ | ⟨_, _, _, a⟩
      · exact ⟨a, b⟩
      · exact absurd ⟨hc, j1⟩ a
    rw [hcz.1, hcz.2, j2] at KD
    rw [h] at KY
    rw [h, e1]
    clear h e1 j1 j2 hcz hc
    rcases hb with ⟨_, e3, e4⟩ | ⟨_, e3, e4⟩
    all_goals
      rw [e3] at KY
      rw [e4]
      clear e3 e4
      go_enter Tryd.func27, Tryd.ntmps27
      go_wp2_with fail
      (go_at_call 16; refine (KY.out _ (KT.out _ (by repeat (first | with_reducible exact Kept.refl _ | with_reducible assumption | with_reducible refine Kept.drew ?_ | with_reducible refine Kept.drewN ?_ _ | with_reducible refine Kept.alloc ?_ _ | (with_reducible refine Kept.setCell ?_ (by first | exact Nat.le_refl _ | omega | (simp; done) | (simp; omega)) _) | (with_reducible refine Kept.trans ?_ (by with_reducible assumption)))))).mono ?_; rintro e w1 ⟨rfl, hk1⟩)
      go_wp2_with fail
      (go_at_call 31; refine (KD.out _ (KT.out _ (by repeat (first | with_reducible exact Kept.refl _ | with_reducible assumption | with_reducible refine Kept.drew ?_ | with_reducible refine Kept.drewN ?_ _ | with_reducible refine Kept.alloc ?_ _ | (with_reducible refine Kept.setCell ?_ (by first | exact Nat.le_refl _ | omega | (simp; done) | (simp; omega)) _) | (with_reducible refine Kept.trans ?_ (by with_reducible assumption)))))).mono ?_; rintro e w2 ⟨rfl, hk2⟩)
      go_wp2_with fail
      (go_at_call 58; refine (OnOrAfter_ok _ _ _ (by omega) (by omega) (by omega) (by omega)).mono ?_; rintro e w3 ⟨rfl, hk3⟩)
      go_wp2
      go_ret3
      exact ⟨by simp; omega, (by repeat (first | with_reducible exact Kept.refl _ | with_reducible assumption | with_reducible refine Kept.drew ?_ | with_reducible refine Kept.drewN ?_ _ | with_reducible refine Kept.alloc ?_ _ | (with_reducible refine Kept.setCell ?_ (by first | exact Nat.le_refl _ | omega | (simp; done) | (simp; omega)) _) | (with_reducible refine Kept.trans ?_ (by with_reducible assumption))))⟩
end Go.Proofs.YtcfgiboknkkheaaDoor

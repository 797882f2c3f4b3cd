/- Contracts: package anchor: of, Check. -/
import Derived.Test.YthhaicledbcnmaaAnc
import Derived.Laws.StructEq
set_option linter.unusedSimpArgs false
set_option linter.unusedVariables false
set_option linter.unusedSectionVars false
namespace Go.Proofs.Ythhaicledbcnmaa
open Go.ChangeShapes Go.WideShapes Go.ChangeAt Go.RowKit
set_option maxHeartbeats 1000000
set_option maxRecDepth 20000

theorem of_fixed (m d o wd c : Int) (w : World) (h : o = 0 ∧ wd = 0 ∧ c = 0) :
    Calls Try.prog 26 #[.agg #[.int .i64 1, .int .i64 m, .int .i64 d, .int .i64 o, .int .i64 wd, .int .i64 c]] w fun e w' => e = .returned (.iface 56 (.agg #[.int .i64 m, .int .i64 d])) ∧ Kept w w' := by
  obtain ⟨rfl, rfl, rfl⟩ := h
  go_enter Try.func26, Try.ntmps26
  go_wp2
  go_ret
  exact ⟨rfl, (by repeat (first | with_reducible exact Kept.refl _ | with_reducible assumption | with_reducible refine Kept.drew ?_ | with_reducible refine Kept.drewN ?_ _ | with_reducible refine Kept.alloc ?_ _ | (with_reducible refine Kept.setCell ?_ (by first | exact Nat.le_refl _ | omega | (simp; done) | (simp; omega)) _) | (with_reducible refine Kept.trans ?_ (by with_reducible assumption))))⟩
theorem of_fixed_no (m d o wd c : Int) (w : World) (h : ¬ (o = 0 ∧ wd = 0 ∧ c = 0)) :
    Calls Try.prog 26 #[.agg #[.int .i64 1, .int .i64 m, .int .i64 d, .int .i64 o, .int .i64 wd, .int .i64 c]] w fun e w' => e = .returned .nilIface ∧ Kept w w' := by
  by_cases h1 : o = 0
  · by_cases h2 : wd = 0
    · have h3 : (c == 0) = false := by simp; omega
      subst h1 h2
      clear h
      go_enter Try.func26, Try.ntmps26
      go_wp2
      go_ret
      exact ⟨rfl, (by repeat (first | with_reducible exact Kept.refl _ | with_reducible assumption | with_reducible refine Kept.drew ?_ | with_reducible refine Kept.drewN ?_ _ | with_reducible refine Kept.alloc ?_ _ | (with_reducible refine Kept.setCell ?_ (by first | exact Nat.le_refl _ | omega | (simp; done) | (simp; omega)) _) | (with_reducible refine Kept.trans ?_ (by with_reducible assumption))))⟩
    · have h3 : (wd == 0) = false := by simp; omega
      subst h1
      clear h
      go_enter Try.func26, Try.ntmps26
      go_wp2
      go_ret
      exact ⟨rfl, (by repeat (first | with_reducible exact Kept.refl _ | with_reducible assumption | with_reducible refine Kept.drew ?_ | with_reducible refine Kept.drewN ?_ _ | with_reducible refine Kept.alloc ?_ _ | (with_reducible refine Kept.setCell ?_ (by first | exact Nat.le_refl _ | omega | (simp; done) | (simp; omega)) _) | (with_reducible refine Kept.trans ?_ (by with_reducible assumption))))⟩
  · have h3 : (o == 0) = false := by simp; omega
    clear h
    go_enter Try.func26, Try.ntmps26
    go_wp2
    go_ret
    exact ⟨rfl, (by repeat (first | with_reducible exact Kept.refl _ | with_reducible assumption | with_reducible refine Kept.drew ?_ | with_reducible refine Kept.drewN ?_ _ | with_reducible refine Kept.alloc ?_ _ | (with_reducible refine Kept.setCell ?_ (by first | exact Nat.le_refl _ | omega | (simp; done) | (simp; omega)) _) | (with_reducible refine Kept.trans ?_ (by with_reducible assumption))))⟩
theorem of_paschal (o : Int) (w : World) :
    Calls Try.prog 26 #[.agg #[.int .i64 2, .int .i64 0, .int .i64 0, .int .i64 o, .int .i64 0, .int .i64 0]] w fun e w' => e = .returned (.iface 58 (.agg #[.int .i64 o])) ∧ Kept w w' := by
  go_enter Try.func26, Try.ntmps26
  go_wp2
  go_ret
  exact ⟨rfl, (by repeat (first | with_reducible exact Kept.refl _ | with_reducible assumption | with_reducible refine Kept.drew ?_ | with_reducible refine Kept.drewN ?_ _ | with_reducible refine Kept.alloc ?_ _ | (with_reducible refine Kept.setCell ?_ (by first | exact Nat.le_refl _ | omega | (simp; done) | (simp; omega)) _) | (with_reducible refine Kept.trans ?_ (by with_reducible assumption))))⟩
theorem of_paschal_no (m d o wd c : Int) (w : World) (h : ¬ (m = 0 ∧ d = 0 ∧ wd = 0 ∧ c = 0)) :
    Calls Try.prog 26 #[.agg #[.int .i64 2, .int .i64 m, .int .i64 d, .int .i64 o, .int .i64 wd, .int .i64 c]] w fun e w' => e = .returned .nilIface ∧ Kept w w' := by
  by_cases h0 : m = 0
  · by_cases h1 : d = 0
    · by_cases h2 : wd = 0
      · have h3 : (c == 0) = false := by simp; omega
        subst h0 h1 h2
        clear h
        go_enter Try.func26, Try.ntmps26
        go_wp2
        go_ret
        exact ⟨rfl, (by repeat (first | with_reducible exact Kept.refl _ | with_reducible assumption | with_reducible refine Kept.drew ?_ | with_reducible refine Kept.drewN ?_ _ | with_reducible refine Kept.alloc ?_ _ | (with_reducible refine Kept.setCell ?_ (by first | exact Nat.le_refl _ | omega | (simp; done) | (simp; omega)) _) | (with_reducible refine Kept.trans ?_ (by with_reducible assumption))))⟩
      · have h3 : (wd == 0) = false := by simp; omega
        subst h0 h1
        clear h
        go_enter Try.func26, Try.ntmps26
        go_wp2
        go_ret
        exact ⟨rfl, (by repeat (first | with_reducible exact Kept.refl _ | with_reducible assumption | with_reducible refine Kept.drew ?_ | with_reducible refine Kept.drewN ?_ _ | with_reducible refine Kept.alloc ?_ _ | (with_reducible refine Kept.setCell ?_ (by first | exact Nat.le_refl _ | omega | (simp; done) | (simp; omega)) _) | (with_reducible refine Kept.trans ?_ (by with_reducible assumption))))⟩
    · have h3 : (d == 0) = false := by simp; omega
      subst h0
      clear h
      go_enter Try.func26, Try.ntmps26
      go_wp2
      go_ret
      exact ⟨rfl, (by repeat (first | with_reducible exact Kept.refl _ | with_reducible assumption | with_reducible refine Kept.drew ?_ | with_reducible refine Kept.drewN ?_ _ | with_reducible refine Kept.alloc ?_ _ | (with_reducible refine Kept.setCell ?_ (by first | exact Nat.le_refl _ | omega | (simp; done) | (simp; omega)) _) | (with_reducible refine Kept.trans ?_ (by with_reducible assumption))))⟩
  · have h3 : (m == 0) = false := by simp; omega
    clear h
    go_enter Try.func26, Try.ntmps26
    go_wp2
    go_ret
    exact ⟨rfl, (by repeat (first | with_reducible exact Kept.refl _ | with_reducible assumption | with_reducible refine Kept.drew ?_ | with_reducible refine Kept.drewN ?_ _ | with_reducible refine Kept.alloc ?_ _ | (with_reducible refine Kept.setCell ?_ (by first | exact Nat.le_refl _ | omega | (simp; done) | (simp; omega)) _) | (with_reducible refine Kept.trans ?_ (by with_reducible assumption))))⟩
theorem of_nth (m d wd c : Int) (w : World) :
    Calls Try.prog 26 #[.agg #[.int .i64 3, .int .i64 m, .int .i64 d, .int .i64 0, .int .i64 wd, .int .i64 c]] w fun e w' => e = .returned (.iface 60 (.agg #[.int .i64 m, .int .i64 d, .int .i64 wd, .int .i64 c])) ∧ Kept w w' := by
  go_enter Try.func26, Try.ntmps26
  go_wp2
  go_ret
  exact ⟨rfl, (by repeat (first | with_reducible exact Kept.refl _ | with_reducible assumption | with_reducible refine Kept.drew ?_ | with_reducible refine Kept.drewN ?_ _ | with_reducible refine Kept.alloc ?_ _ | (with_reducible refine Kept.setCell ?_ (by first | exact Nat.le_refl _ | omega | (simp; done) | (simp; omega)) _) | (with_reducible refine Kept.trans ?_ (by with_reducible assumption))))⟩
theorem of_nth_no (m d o wd c : Int) (w : World) (h : o ≠ 0) :
    Calls Try.prog 26 #[.agg #[.int .i64 3, .int .i64 m, .int .i64 d, .int .i64 o, .int .i64 wd, .int .i64 c]] w fun e w' => e = .returned .nilIface ∧ Kept w w' := by
  have h3 : (o == 0) = false := by simpa using h
  go_enter Try.func26, Try.ntmps26
  go_wp2
  go_ret
  exact ⟨rfl, (by repeat (first | with_reducible exact Kept.refl _ | with_reducible assumption | with_reducible refine Kept.drew ?_ | with_reducible refine Kept.drewN ?_ _ | with_reducible refine Kept.alloc ?_ _ | (with_reducible refine Kept.setCell ?_ (by first | exact Nat.le_refl _ | omega | (simp; done) | (simp; omega)) _) | (with_reducible refine Kept.trans ?_ (by with_reducible assumption))))⟩
theorem of_other (k m d o wd c : Int) (w : World) (h1 : k ≠ 1) (h2 : k ≠ 2) (h3 : k ≠ 3) :
    Calls Try.prog 26 #[.agg #[.int .i64 k, .int .i64 m, .int .i64 d, .int .i64 o, .int .i64 wd, .int .i64 c]] w fun e w' => e = .returned .nilIface ∧ Kept w w' := by
  have g1 : (k == 1) = false := by simpa using h1
  have g2 : (k == 2) = false := by simpa using h2
  have g3 : (k == 3) = false := by simpa using h3
  go_enter Try.func26, Try.ntmps26
  go_wp2
  go_ret
  exact ⟨rfl, (by repeat (first | with_reducible exact Kept.refl _ | with_reducible assumption | with_reducible refine Kept.drew ?_ | with_reducible refine Kept.drewN ?_ _ | with_reducible refine Kept.alloc ?_ _ | (with_reducible refine Kept.setCell ?_ (by first | exact Nat.le_refl _ | omega | (simp; done) | (simp; omega)) _) | (with_reducible refine Kept.trans ?_ (by with_reducible assumption))))⟩
/-- A well-formed anchor. -/
def ancB (k m d o wd c : Int) : Bool :=
  if k = 1 then decide (o = 0 ∧ wd = 0 ∧ c = 0) && ancF m d
  else if k = 2 then decide (m = 0 ∧ d = 0 ∧ wd = 0 ∧ c = 0) && ancP o
  else if k = 3 then decide (o = 0) && ancN m d wd c
  else false
theorem ACheck_any (k m d o wd c : Int) (w : World) (bc : -9223372036854775808 ≤ c ∧ c ≤ 9223372036854775807) :
    Calls Try.prog 22 #[.agg #[.int .i64 k, .int .i64 m, .int .i64 d, .int .i64 o, .int .i64 wd, .int .i64 c]] w fun e w' => e = .returned (.bool (ancB k m d o wd c)) ∧ Kept w w' := by
  have nil : ancB k m d o wd c = false → (∀ w, Calls Try.prog 26 #[.agg #[.int .i64 k, .int .i64 m, .int .i64 d, .int .i64 o, .int .i64 wd, .int .i64 c]] w fun e w' => e = .returned .nilIface ∧ Kept w w') →
      Calls Try.prog 22 #[.agg #[.int .i64 k, .int .i64 m, .int .i64 d, .int .i64 o, .int .i64 wd, .int .i64 c]] w fun e w' => e = .returned (.bool (ancB k m d o wd c)) ∧ Kept w w' := by
    intro e H
    rw [e]
    have KO := Lib.hid H
    clear e H
    go_enter Try.func22, Try.ntmps22
    go_wp2_with fail
    go_at_call 26
    (with_reducible refine (KO.out _).mono ?_)
    rintro e w1 ⟨rfl, hk1⟩
    go_wp2
    go_ret
    exact ⟨rfl, (by repeat (first | with_reducible exact Kept.refl _ | with_reducible assumption | with_reducible refine Kept.drew ?_ | with_reducible refine Kept.drewN ?_ _ | with_reducible refine Kept.alloc ?_ _ | (with_reducible refine Kept.setCell ?_ (by first | exact Nat.le_refl _ | omega | (simp; done) | (simp; omega)) _) | (with_reducible refine Kept.trans ?_ (by with_reducible assumption))))⟩
  have hm1 : ∀ (v : Value) (w : World), (method 188 56 v "computus/anchor.valid").run Try.prog w = .ok (53, v) w := fun _ _ => by kernel_rfl
  have hm2 : ∀ (v : Value) (w : World), (method 188 58 v "computus/anchor.valid").run Try.prog w = .ok (57, v) w := fun _ _ => by kernel_rfl
  have hm3 : ∀ (v : Value) (w : World), (method 188 60 v "computus/anchor.valid").run Try.prog w = .ok (59, v) w := fun _ _ => by kernel_rfl
  by_cases k1 : k = 1
  · subst k1
    have e : ancB 1 m d o wd c = (decide (o = 0 ∧ wd = 0 ∧ c = 0) && ancF m d) := if_pos rfl
    by_cases h : o = 0 ∧ wd = 0 ∧ c = 0
    · rw [e, decide_eq_true h, Bool.true_and]
      have KO := Lib.hid (fun w => of_fixed m d o wd c w h)
      have KV := Lib.hid (fun w => fixed_valid m d w)
      generalize ancF m d = b at *
      clear nil e h hm2 hm3
      go_enter Try.func22, Try.ntmps22
      go_wp2_with fail
      go_at_call 26
      (with_reducible refine (KO.out _).mono ?_)
      rintro e w1 ⟨rfl, hk1⟩
      go_wp2_with fail
      go_at_call 53
      (with_reducible refine (KV.out _).mono ?_)
      rintro e w2 ⟨rfl, hk2⟩
      go_wp2
      go_ret
      exact ⟨rfl, (by repeat (first | with_reducible exact Kept.refl _ | with_reducible assumption | with_reducible refine Kept.drew ?_ | with_reducible refine Kept.drewN ?_ _ | with_reducible refine Kept.alloc ?_ _ | (with_reducible refine Kept.setCell ?_ (by first | exact Nat.le_refl _ | omega | (simp; done) | (simp; omega)) _) | (with_reducible refine Kept.trans ?_ (by with_reducible assumption))))⟩
    · exact nil (by rw [e, decide_eq_false h]; rfl) (fun w => of_fixed_no m d o wd c w h)
  · by_cases k2 : k = 2
    · subst k2
      have e : ancB 2 m d o wd c = (decide (m = 0 ∧ d = 0 ∧ wd = 0 ∧ c = 0) && ancP o) := by unfold ancB; rw [if_neg (by decide), if_pos rfl]
      by_cases h : m = 0 ∧ d = 0 ∧ wd = 0 ∧ c = 0
      · rw [e, decide_eq_true h, Bool.true_and]
        obtain ⟨rfl, rfl, rfl, rfl⟩ := h
        have KO := Lib.hid (fun w => of_paschal o w)
        have KV := Lib.hid (fun w => paschal_valid o w)
        generalize ancP o = b at *
        clear nil e hm1 hm3
        go_enter Try.func22, Try.ntmps22
        go_wp2_with fail
        go_at_call 26
        (with_reducible refine (KO.out _).mono ?_)
        rintro e w1 ⟨rfl, hk1⟩
        go_wp2_with fail
        go_at_call 57
        (with_reducible refine (KV.out _).mono ?_)
        rintro e w2 ⟨rfl, hk2⟩
        go_wp2
        go_ret
        exact ⟨rfl, (by repeat (first | with_reducible exact Kept.refl _ | with_reducible assumption | with_reducible refine Kept.drew ?_ | with_reducible refine Kept.drewN ?_ _ | with_reducible refine Kept.alloc ?_ _ | (with_reducible refine Kept.setCell ?_ (by first | exact Nat.le_refl _ | omega | (simp; done) | (simp; omega)) _) | (with_reducible refine Kept.trans ?_ (by with_reducible assumption))))⟩
      · exact nil (by rw [e, decide_eq_false h]; rfl) (fun w => of_paschal_no m d o wd c w h)
    · by_cases k3 : k = 3
      · subst k3
        have e : ancB 3 m d o wd c = (decide (o = 0) && ancN m d wd c) := by unfold ancB; rw [if_neg (by decide), if_neg (by decide), if_pos rfl]
        by_cases h : o = 0
        · rw [e, decide_eq_true h, Bool.true_and]
          subst h
          have KO := Lib.hid (fun w => of_nth m d wd c w)
          have KV := Lib.hid (fun w => nth_valid m d wd c w bc)
          generalize ancN m d wd c = b at *
          clear nil e hm1 hm2
          go_enter Try.func22, Try.ntmps22
          go_wp2_with fail
          go_at_call 26
          (with_reducible refine (KO.out _).mono ?_)
          rintro e w1 ⟨rfl, hk1⟩
          go_wp2_with fail
          go_at_call 59
          (with_reducible refine (KV.out _).mono ?_)
          rintro e w2 ⟨rfl, hk2⟩
          go_wp2
          go_ret
          exact ⟨rfl, (by repeat (first | with_reducible exact Kept.refl _ | with_reducible assumption | with_reducible refine Kept.drew ?_ | with_reducible refine Kept.drewN ?_ _ | with_reducible refine Kept.alloc ?_ _ | (with_reducible refine Kept.setCell ?_ (by first | exact Nat.le_refl _ | omega | (simp; done) | (simp; omega)) _) | (with_reducible refine Kept.trans ?_ (by with_reducible assumption))))⟩
        · exact nil (by rw [e, decide_eq_false h]; rfl) (fun w => of_nth_no m d o wd c w h)
      · exact nil (by unfold ancB; rw [if_neg k1, if_neg k2, if_neg k3]) (fun w => of_other k m d o wd c w k1 k2 k3)
end Go.Proofs.Ythhaicledbcnmaa

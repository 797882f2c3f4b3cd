/- Contracts and plain lemmas: Anc, Anc2, AncR. -/
import Derived.Test.YtblaphkaklocfaaGreatDoorG02
import Derived.Test.YtblaphkaklocfaaGreatDoorG05
import Derived.Outline
import Derived.Laws.StructEq
set_option linter.unusedSimpArgs false
set_option linter.unusedVariables false
set_option linter.unusedSectionVars false
/- Contracts: package anchor: of, Check. -/
namespace Go.Proofs.YtblaphkaklocfaaGreatDoor
open Go.ChangeShapes Go.WideShapes Go.ChangeAt Go.RowKit
set_option maxHeartbeats 1000000
set_option maxRecDepth 20000

/-- The day of a common year. -/
def atY (m d : Int) : Int := dayN m d + 1
/-- A well-formed anchor. -/
def ancF (m d : Int) : Bool := decide (1 ≤ d ∧ d ≤ mlen false m)
def ancP (o : Int) : Bool := decide (-80 ≤ o ∧ o ≤ 250)
def ancN (m d wd c : Int) : Bool := decide ((1 ≤ d ∧ d ≤ mlen false m) ∧ (0 ≤ wd ∧ wd ≤ 6) ∧ ((1 ≤ c ∧ c ≤ 8) ∧ atY m d + 7 * c - 1 ≤ 365 ∨ (-8 ≤ c ∧ c ≤ -1) ∧ 1 ≤ atY m d + 7 * c + 1))
theorem lp2001 : lp 2 2001 = false := by decide
theorem mlen_no (b : Bool) (m : Int) (h : m < 1 ∨ 12 < m) : mlen b m = 0 := if_pos h
theorem Len_k (m : Int) (w : World) : Calls Tryz.prog 203 #[.int .i64 2001, .int .i64 m] w fun e w' => e = .returned (.int .i64 (mlen false m)) ∧ Kept w w' := by
  have h := Length_any 2001 m w
  rw [lp2001] at h
  exact h.mono fun e w' ⟨a, b⟩ => ⟨a, b ▸ Kept.refl _⟩
theorem mlen_range (m : Int) : 0 ≤ mlen false m ∧ mlen false m ≤ 31 := by
  by_cases h : m < 1 ∨ 12 < m
  · rw [mlen_no _ _ h]; decide
  · rcases month_cases m (by omega) (by omega) with rfl | rfl | rfl | rfl | rfl | rfl | rfl | rfl | rfl | rfl | rfl | rfl <;> decide
theorem fixed_valid (m d : Int) (w : World) :
    Calls Tryz.prog 318 #[.agg #[.int .i64 m, .int .i64 d]] w fun e w' => e = .returned (.bool (ancF m d)) ∧ Kept w w' := by
  have hv : ancF m d = decide (1 ≤ d ∧ d ≤ mlen false m) := rfl
  have KL := Lib.hid (fun w => Len_k m w)
  have hr := mlen_range m
  generalize mlen false m = x at *
  by_cases h1 : 1 ≤ d
  · by_cases h2 : d ≤ x
    · have e : ancF m d = true := by rw [hv]; simp [h1, h2]
      rw [e]
      clear e hv
      go_enter Tryz.func318, Tryz.ntmps318
      go_wp2_with fail
      go_region_held3 (fun w' => Kept (w.alloc (.cells #[.int .i64 m, .int .i64 d] 316)) w' ∧ (∀ b o, b < (w.alloc (.cells #[.int .i64 m, .int .i64 d] 316)).heap.size → w'.cell? ⟨b, o, none⟩ = (w.alloc (.cells #[.int .i64 m, .int .i64 d] 316)).cell? ⟨b, o, none⟩)) (first | exact held_of (Kept.drew (Kept.refl _)) | exact held_of (Kept.trans (And.left (by assumption)) (by assumption))) (first | (go_at_call 203; refine (KL.out _).mono ?_; rintro e w1 ⟨rfl, hk1⟩))
      go_wp2
      go_ret
      exact ⟨rfl, (by repeat (first | with_reducible exact Kept.refl _ | with_reducible assumption | with_reducible refine Kept.drew ?_ | with_reducible refine Kept.drewN ?_ _ | with_reducible refine Kept.alloc ?_ _ | (with_reducible refine Kept.setCell ?_ (by first | exact Nat.le_refl _ | omega | (simp; done) | (simp; omega)) _) | (with_reducible refine Kept.trans ?_ (by with_reducible assumption))))⟩
    · have e : ancF m d = false := by rw [hv]; simp [h2]
      rw [e]
      have h3 : decide (d ≤ x) = false := decide_eq_false h2
      clear e hv
      go_enter Tryz.func318, Tryz.ntmps318
      go_wp2_with fail
      go_region_held3 (fun w' => Kept (w.alloc (.cells #[.int .i64 m, .int .i64 d] 316)) w' ∧ (∀ b o, b < (w.alloc (.cells #[.int .i64 m, .int .i64 d] 316)).heap.size → w'.cell? ⟨b, o, none⟩ = (w.alloc (.cells #[.int .i64 m, .int .i64 d] 316)).cell? ⟨b, o, none⟩)) (first | exact held_of (Kept.drew (Kept.refl _)) | exact held_of (Kept.trans (And.left (by assumption)) (by assumption))) (first | (go_at_call 203; refine (KL.out _).mono ?_; rintro e w1 ⟨rfl, hk1⟩))
      go_wp2
      go_ret
      exact ⟨rfl, (by repeat (first | with_reducible exact Kept.refl _ | with_reducible assumption | with_reducible refine Kept.drew ?_ | with_reducible refine Kept.drewN ?_ _ | with_reducible refine Kept.alloc ?_ _ | (with_reducible refine Kept.setCell ?_ (by first | exact Nat.le_refl _ | omega | (simp; done) | (simp; omega)) _) | (with_reducible refine Kept.trans ?_ (by with_reducible assumption))))⟩
  · have e : ancF m d = false := by rw [hv]; simp [h1]
    rw [e]
    have h3 : decide (1 ≤ d) = false := decide_eq_false h1
    clear e hv
    go_enter Tryz.func318, Tryz.ntmps318
    go_wp2_with fail
    go_quiet (fail)
    go_wp2
    go_ret
    exact ⟨rfl, (by repeat (first | with_reducible exact Kept.refl _ | with_reducible assumption | with_reducible refine Kept.drew ?_ | with_reducible refine Kept.drewN ?_ _ | with_reducible refine Kept.alloc ?_ _ | (with_reducible refine Kept.setCell ?_ (by first | exact Nat.le_refl _ | omega | (simp; done) | (simp; omega)) _) | (with_reducible refine Kept.trans ?_ (by with_reducible assumption))))⟩
theorem paschal_valid (o : Int) (w : World) :
    Calls Tryz.prog 320 #[.agg #[.int .i64 o]] w fun e w' => e = .returned (.bool (ancP o)) ∧ Kept w w' := by
  have hv : ancP o = decide (-80 ≤ o ∧ o ≤ 250) := rfl
  by_cases h1 : -80 ≤ o
  · by_cases h2 : o ≤ 250
    · have e : ancP o = true := by rw [hv]; simp [h1, h2]
      rw [e]
      clear e hv
      go_enter Tryz.func320, Tryz.ntmps320
      go_wp2
      go_ret
      exact ⟨rfl, (by repeat (first | with_reducible exact Kept.refl _ | with_reducible assumption | with_reducible refine Kept.drew ?_ | with_reducible refine Kept.drewN ?_ _ | with_reducible refine Kept.alloc ?_ _ | (with_reducible refine Kept.setCell ?_ (by first | exact Nat.le_refl _ | omega | (simp; done) | (simp; omega)) _) | (with_reducible refine Kept.trans ?_ (by with_reducible assumption))))⟩
    · have e : ancP o = false := by rw [hv]; simp [h2]
      rw [e]
      clear e hv
      go_enter Tryz.func320, Tryz.ntmps320
      go_wp2
      go_ret
      exact ⟨rfl, (by repeat (first | with_reducible exact Kept.refl _ | with_reducible assumption | with_reducible refine Kept.drew ?_ | with_reducible refine Kept.drewN ?_ _ | with_reducible refine Kept.alloc ?_ _ | (with_reducible refine Kept.setCell ?_ (by first | exact Nat.le_refl _ | omega | (simp; done) | (simp; omega)) _) | (with_reducible refine Kept.trans ?_ (by with_reducible assumption))))⟩
  · have e : ancP o = false := by rw [hv]; simp [h1]
    rw [e]
    clear e hv
    go_enter Tryz.func320, Tryz.ntmps320
    go_wp2
    go_ret
    exact ⟨rfl, (by repeat (first | with_reducible exact Kept.refl _ | with_reducible assumption | with_reducible refine Kept.drew ?_ | with_reducible refine Kept.drewN ?_ _ | with_reducible refine Kept.alloc ?_ _ | (with_reducible refine Kept.setCell ?_ (by first | exact Nat.le_refl _ | omega | (simp; done) | (simp; omega)) _) | (with_reducible refine Kept.trans ?_ (by with_reducible assumption))))⟩
theorem ancF_ex (m d : Int) : ancF m d = decide (Ex m d) := by
  unfold ancF Ex
  apply decide_eq_decide.mpr
  by_cases h : m < 1 ∨ 12 < m
  · rw [mlen_no _ _ h]; omega
  · omega
theorem day2001 (m d : Int) (h : Ex m d) : tdE 2 2001 m d = 0 ∧ tdN 2 2001 m d = fst 2 2001 + dayN m d := by
  obtain ⟨h1, h2, h3, h4⟩ := h
  have o : OkD 2 2001 m d := ⟨by decide, by decide, h1, h2, h3, by rw [lp2001]; exact h4⟩
  rcases td_cases 2 2001 m d with ⟨g, _⟩ | ⟨⟨_, _, g⟩, _⟩ | ⟨_, e1, e2⟩
  · omega
  · exact absurd o g
  · refine ⟨e2, e1.trans ?_⟩
    unfold num dayN
    rw [lp2001]
    omega
theorem fixed_day (m d : Int) (y : Int) (w : World) :
    Calls Tryz.prog 317 #[.agg #[.int .i64 m, .int .i64 d], .int .i64 y] w fun e w' => e = .returned (.tuple #[.int .i64 (tdN 2 y m d), .int .i64 (tdE 2 y m d)]) ∧ Kept w w' := by
  have KT := Lib.hid (fun w => GToDay_all y m d w)
  generalize tdN 2 y m d = a at *
  generalize tdE 2 y m d = b at *
  go_enter Tryz.func317, Tryz.ntmps317
  go_wp2_with fail
  go_at_call 148
  (with_reducible refine (KT.out _).mono ?_)
  rintro e w1 ⟨rfl, hk1⟩
  go_wp2
  go_ret2
  exact ⟨rfl, (by repeat (first | with_reducible exact Kept.refl _ | with_reducible assumption | with_reducible refine Kept.drew ?_ | with_reducible refine Kept.drewN ?_ _ | with_reducible refine Kept.alloc ?_ _ | (with_reducible refine Kept.setCell ?_ (by first | exact Nat.le_refl _ | omega | (simp; done) | (simp; omega)) _) | (with_reducible refine Kept.trans ?_ (by with_reducible assumption))))⟩
theorem fst2001 : fst 2 2001 = 730486 := by decide
theorem dayN_range (m d : Int) (h : Ex m d) : 0 ≤ dayN m d ∧ dayN m d ≤ 364 := dayN_bounds m d h
set_option maxHeartbeats 2000000 in
theorem nth_valid (m d wd c : Int) (w : World) (bc : -9223372036854775808 ≤ c ∧ c ≤ 9223372036854775807) :
    Calls Tryz.prog 322 #[.agg #[.int .i64 m, .int .i64 d, .int .i64 wd, .int .i64 c]] w fun e w' => e = .returned (.bool (ancN m d wd c)) ∧ Kept w w' := by
  have hv : ancN m d wd c = decide ((1 ≤ d ∧ d ≤ mlen false m) ∧ (0 ≤ wd ∧ wd ≤ 6) ∧ ((1 ≤ c ∧ c ≤ 8) ∧ atY m d + 7 * c - 1 ≤ 365 ∨ (-8 ≤ c ∧ c ≤ -1) ∧ 1 ≤ atY m d + 7 * c + 1)) := rfl
  have KV := Lib.hid (fun w => fixed_valid m d w)
  have hf : ancF m d = decide (1 ≤ d ∧ d ≤ mlen false m) := rfl
  by_cases hex : Ex m d
  · have hx : 1 ≤ d ∧ d ≤ mlen false m := by have := ancF_ex m d; rw [decide_eq_true hex, hf] at this; simpa using this
    have hd := dayN_range m d hex
    have KD := Lib.hid (fun w => fixed_day m d 2001 w)
    rw [(day2001 m d hex).1, (day2001 m d hex).2, fst2001] at KD
    have KF := Lib.hid (fun w => First_ok 2001 w (by decide) (by decide))
    rw [fst2001] at KF
    rw [hf, decide_eq_true hx] at KV
    have hA : atY m d = dayN m d + 1 := rfl
    rw [hA] at hv
    generalize dayN m d = p at *
    clear hf hA hex
    have hcase : ∃ b : Bool, ancN m d wd c = b ∧ ((wd < 0 ∧ b = false) ∨ (6 < wd ∧ 0 ≤ wd ∧ b = false) ∨ ((0 ≤ wd ∧ wd ≤ 6) ∧ ((1 ≤ c ∧ c ≤ 8 ∧ p + 1 + 7 * c - 1 ≤ 365 ∧ b = true) ∨ (1 ≤ c ∧ c ≤ 8 ∧ ¬ p + 1 + 7 * c - 1 ≤ 365 ∧ b = false) ∨ (c ≤ -1 ∧ -8 ≤ c ∧ 1 ≤ p + 1 + 7 * c + 1 ∧ b = true) ∨ (c ≤ -1 ∧ -8 ≤ c ∧ ¬ 1 ≤ p + 1 + 7 * c + 1 ∧ b = false) ∨ (c = 0 ∧ b = false) ∨ (9 ≤ c ∧ b = false) ∨ (c ≤ -9 ∧ b = false)))) := by
      refine ⟨_, rfl, ?_⟩
      rw [hv]
      simp only [decide_eq_true_eq, decide_eq_false_iff_not]
      omega
    obtain ⟨b, hb, hcase⟩ := hcase
    rw [hb]
    clear hv hb hx
    rcases hcase with ⟨h1, rfl⟩ | ⟨h1, h2, rfl⟩ | ⟨⟨h1, h2⟩, ⟨h3, h4, h5, rfl⟩ | ⟨h3, h4, h5, rfl⟩ | ⟨h3, h4, h5, rfl⟩ | ⟨h3, h4, h5, rfl⟩ | ⟨rfl, rfl⟩ | ⟨h3, rfl⟩ | ⟨h3, rfl⟩⟩
    iterate 2
      · go_enter Tryz.func322, Tryz.ntmps322
        go_wp2_with fail
        (go_at_call 318; refine (KV.out _).mono ?_; rintro e w1 ⟨rfl, hk1⟩)
        have hB1_1 := hk1
        obtain ⟨hc1_1, hf1_1⟩ := kept_cells hB1_1
        have hz1_0_1 : w.heap.size < w1.heap.size := by have := hB1_1.size; simp at this; omega
        go_wp2
        go_ret
        exact ⟨rfl, (by repeat (first | with_reducible exact Kept.refl _ | with_reducible assumption | with_reducible refine Kept.drew ?_ | with_reducible refine Kept.drewN ?_ _ | with_reducible refine Kept.alloc ?_ _ | (with_reducible refine Kept.setCell ?_ (by first | exact Nat.le_refl _ | omega | (simp; done) | (simp; omega)) _) | (with_reducible refine Kept.trans ?_ (by with_reducible assumption))))⟩
    all_goals
      go_enter Tryz.func322, Tryz.ntmps322
      go_wp2_with fail
      (go_at_call 318; refine (KV.out _).mono ?_; rintro e w1 ⟨rfl, hk1⟩)
      have hB1_1 := hk1
      obtain ⟨hc1_1, hf1_1⟩ := kept_cells hB1_1
      have hz1_0_1 : w.heap.size < w1.heap.size := by have := hB1_1.size; simp at this; omega
      go_wp2_with fail
      (go_at_call 317; refine (KD.out _).mono ?_; rintro e w2 ⟨rfl, hk2⟩)
      have hB1_2 := Kept.trans hB1_1 hk2
      obtain ⟨hc1_2, hf1_2⟩ := kept_cells hB1_2
      have hz1_0_2 : w.heap.size < w2.heap.size := by have := hB1_2.size; simp at this; omega
      go_wp2_with fail
      (go_at_call 105; refine (KF.out _).mono ?_; rintro e w1 ⟨rfl, rfl⟩)
      go_wp2
      go_ret
      refine ⟨?_, (by repeat (first | with_reducible exact Kept.refl _ | with_reducible assumption | with_reducible refine Kept.drew ?_ | with_reducible refine Kept.drewN ?_ _ | with_reducible refine Kept.alloc ?_ _ | (with_reducible refine Kept.setCell ?_ (by first | exact Nat.le_refl _ | omega | (simp; done) | (simp; omega)) _) | (with_reducible refine Kept.trans ?_ (by with_reducible assumption))))⟩
      first
      | rfl
      | (show Ending.returned (Value.bool _) = Ending.returned (Value.bool _); apply ret_bool; first | (apply decide_eq_true; omega) | (apply decide_eq_false; omega))
  · have hx : ¬ (1 ≤ d ∧ d ≤ mlen false m) := by have := ancF_ex m d; rw [decide_eq_false hex, hf] at this; simpa using this
    have e : ancN m d wd c = false := by rw [hv, decide_eq_false_iff_not]; exact fun g => hx g.1
    rw [e]
    rw [hf, decide_eq_false hx] at KV
    clear e hv hx hf hex
    go_enter Tryz.func322, Tryz.ntmps322
    go_wp2_with (go_at_call 318; refine (KV.out _).mono ?_; rintro e w1 ⟨rfl, hk1⟩)
    go_ret
    exact ⟨rfl, (by repeat (first | with_reducible exact Kept.refl _ | with_reducible assumption | with_reducible refine Kept.drew ?_ | with_reducible refine Kept.drewN ?_ _ | with_reducible refine Kept.alloc ?_ _ | (with_reducible refine Kept.setCell ?_ (by first | exact Nat.le_refl _ | omega | (simp; done) | (simp; omega)) _) | (with_reducible refine Kept.trans ?_ (by with_reducible assumption))))⟩
end Go.Proofs.YtblaphkaklocfaaGreatDoor
/- Contracts: package anchor: of, Check. -/
namespace Go.Proofs.YtblaphkaklocfaaGreatDoor
open Go.ChangeShapes Go.WideShapes Go.ChangeAt Go.RowKit
set_option maxHeartbeats 1000000
set_option maxRecDepth 20000

theorem of_fixed (m d o wd c : Int) (w : World) (h : o = 0 ∧ wd = 0 ∧ c = 0) :
    Calls Tryz.prog 251 #[.agg #[.int .i64 1, .int .i64 m, .int .i64 d, .int .i64 o, .int .i64 wd, .int .i64 c]] w fun e w' => e = .returned (.iface 316 (.agg #[.int .i64 m, .int .i64 d])) ∧ Kept w w' := by
  obtain ⟨rfl, rfl, rfl⟩ := h
  go_enter Tryz.func251, Tryz.ntmps251
  go_wp2
  go_ret
  exact ⟨rfl, (by repeat (first | with_reducible exact Kept.refl _ | with_reducible assumption | with_reducible refine Kept.drew ?_ | with_reducible refine Kept.drewN ?_ _ | with_reducible refine Kept.alloc ?_ _ | (with_reducible refine Kept.setCell ?_ (by first | exact Nat.le_refl _ | omega | (simp; done) | (simp; omega)) _) | (with_reducible refine Kept.trans ?_ (by with_reducible assumption))))⟩
theorem of_fixed_no (m d o wd c : Int) (w : World) (h : ¬ (o = 0 ∧ wd = 0 ∧ c = 0)) :
    Calls Tryz.prog 251 #[.agg #[.int .i64 1, .int .i64 m, .int .i64 d, .int .i64 o, .int .i64 wd, .int .i64 c]] w fun e w' => e = .returned .nilIface ∧ Kept w w' := by
  by_cases h1 : o = 0
  · by_cases h2 : wd = 0
    · have h3 : (c == 0) = false := by simp; omega
      subst h1 h2
      clear h
      go_enter Tryz.func251, Tryz.ntmps251
      go_wp2
      go_ret
      exact ⟨rfl, (by repeat (first | with_reducible exact Kept.refl _ | with_reducible assumption | with_reducible refine Kept.drew ?_ | with_reducible refine Kept.drewN ?_ _ | with_reducible refine Kept.alloc ?_ _ | (with_reducible refine Kept.setCell ?_ (by first | exact Nat.le_refl _ | omega | (simp; done) | (simp; omega)) _) | (with_reducible refine Kept.trans ?_ (by with_reducible assumption))))⟩
    · have h3 : (wd == 0) = false := by simp; omega
      subst h1
      clear h
      go_enter Tryz.func251, Tryz.ntmps251
      go_wp2
      go_ret
      exact ⟨rfl, (by repeat (first | with_reducible exact Kept.refl _ | with_reducible assumption | with_reducible refine Kept.drew ?_ | with_reducible refine Kept.drewN ?_ _ | with_reducible refine Kept.alloc ?_ _ | (with_reducible refine Kept.setCell ?_ (by first | exact Nat.le_refl _ | omega | (simp; done) | (simp; omega)) _) | (with_reducible refine Kept.trans ?_ (by with_reducible assumption))))⟩
  · have h3 : (o == 0) = false := by simp; omega
    clear h
    go_enter Tryz.func251, Tryz.ntmps251
    go_wp2
    go_ret
    exact ⟨rfl, (by repeat (first | with_reducible exact Kept.refl _ | with_reducible assumption | with_reducible refine Kept.drew ?_ | with_reducible refine Kept.drewN ?_ _ | with_reducible refine Kept.alloc ?_ _ | (with_reducible refine Kept.setCell ?_ (by first | exact Nat.le_refl _ | omega | (simp; done) | (simp; omega)) _) | (with_reducible refine Kept.trans ?_ (by with_reducible assumption))))⟩
theorem of_paschal (o : Int) (w : World) :
    Calls Tryz.prog 251 #[.agg #[.int .i64 2, .int .i64 0, .int .i64 0, .int .i64 o, .int .i64 0, .int .i64 0]] w fun e w' => e = .returned (.iface 318 (.agg #[.int .i64 o])) ∧ Kept w w' := by
  go_enter Tryz.func251, Tryz.ntmps251
  go_wp2
  go_ret
  exact ⟨rfl, (by repeat (first | with_reducible exact Kept.refl _ | with_reducible assumption | with_reducible refine Kept.drew ?_ | with_reducible refine Kept.drewN ?_ _ | with_reducible refine Kept.alloc ?_ _ | (with_reducible refine Kept.setCell ?_ (by first | exact Nat.le_refl _ | omega | (simp; done) | (simp; omega)) _) | (with_reducible refine Kept.trans ?_ (by with_reducible assumption))))⟩
theorem of_paschal_no (m d o wd c : Int) (w : World) (h : ¬ (m = 0 ∧ d = 0 ∧ wd = 0 ∧ c = 0)) :
    Calls Tryz.prog 251 #[.agg #[.int .i64 2, .int .i64 m, .int .i64 d, .int .i64 o, .int .i64 wd, .int .i64 c]] w fun e w' => e = .returned .nilIface ∧ Kept w w' := by
  by_cases h0 : m = 0
  · by_cases h1 : d = 0
    · by_cases h2 : wd = 0
      · have h3 : (c == 0) = false := by simp; omega
        subst h0 h1 h2
        clear h
        go_enter Tryz.func251, Tryz.ntmps251
        go_wp2
        go_ret
        exact ⟨rfl, (by repeat (first | with_reducible exact Kept.refl _ | with_reducible assumption | with_reducible refine Kept.drew ?_ | with_reducible refine Kept.drewN ?_ _ | with_reducible refine Kept.alloc ?_ _ | (with_reducible refine Kept.setCell ?_ (by first | exact Nat.le_refl _ | omega | (simp; done) | (simp; omega)) _) | (with_reducible refine Kept.trans ?_ (by with_reducible assumption))))⟩
      · have h3 : (wd == 0) = false := by simp; omega
        subst h0 h1
        clear h
        go_enter Tryz.func251, Tryz.ntmps251
        go_wp2
        go_ret
        exact ⟨rfl, (by repeat (first | with_reducible exact Kept.refl _ | with_reducible assumption | with_reducible refine Kept.drew ?_ | with_reducible refine Kept.drewN ?_ _ | with_reducible refine Kept.alloc ?_ _ | (with_reducible refine Kept.setCell ?_ (by first | exact Nat.le_refl _ | omega | (simp; done) | (simp; omega)) _) | (with_reducible refine Kept.trans ?_ (by with_reducible assumption))))⟩
    · have h3 : (d == 0) = false := by simp; omega
      subst h0
      clear h
      go_enter Tryz.func251, Tryz.ntmps251
      go_wp2
      go_ret
      exact ⟨rfl, (by repeat (first | with_reducible exact Kept.refl _ | with_reducible assumption | with_reducible refine Kept.drew ?_ | with_reducible refine Kept.drewN ?_ _ | with_reducible refine Kept.alloc ?_ _ | (with_reducible refine Kept.setCell ?_ (by first | exact Nat.le_refl _ | omega | (simp; done) | (simp; omega)) _) | (with_reducible refine Kept.trans ?_ (by with_reducible assumption))))⟩
  · have h3 : (m == 0) = false := by simp; omega
    clear h
    go_enter Tryz.func251, Tryz.ntmps251
    go_wp2
    go_ret
    exact ⟨rfl, (by repeat (first | with_reducible exact Kept.refl _ | with_reducible assumption | with_reducible refine Kept.drew ?_ | with_reducible refine Kept.drewN ?_ _ | with_reducible refine Kept.alloc ?_ _ | (with_reducible refine Kept.setCell ?_ (by first | exact Nat.le_refl _ | omega | (simp; done) | (simp; omega)) _) | (with_reducible refine Kept.trans ?_ (by with_reducible assumption))))⟩
theorem of_nth (m d wd c : Int) (w : World) :
    Calls Tryz.prog 251 #[.agg #[.int .i64 3, .int .i64 m, .int .i64 d, .int .i64 0, .int .i64 wd, .int .i64 c]] w fun e w' => e = .returned (.iface 320 (.agg #[.int .i64 m, .int .i64 d, .int .i64 wd, .int .i64 c])) ∧ Kept w w' := by
  go_enter Tryz.func251, Tryz.ntmps251
  go_wp2
  go_ret
  exact ⟨rfl, (by repeat (first | with_reducible exact Kept.refl _ | with_reducible assumption | with_reducible refine Kept.drew ?_ | with_reducible refine Kept.drewN ?_ _ | with_reducible refine Kept.alloc ?_ _ | (with_reducible refine Kept.setCell ?_ (by first | exact Nat.le_refl _ | omega | (simp; done) | (simp; omega)) _) | (with_reducible refine Kept.trans ?_ (by with_reducible assumption))))⟩
theorem of_nth_no (m d o wd c : Int) (w : World) (h : o ≠ 0) :
    Calls Tryz.prog 251 #[.agg #[.int .i64 3, .int .i64 m, .int .i64 d, .int .i64 o, .int .i64 wd, .int .i64 c]] w fun e w' => e = .returned .nilIface ∧ Kept w w' := by
  have h3 : (o == 0) = false := by simpa using h
  go_enter Tryz.func251, Tryz.ntmps251
  go_wp2
  go_ret
  exact ⟨rfl, (by repeat (first | with_reducible exact Kept.refl _ | with_reducible assumption | with_reducible refine Kept.drew ?_ | with_reducible refine Kept.drewN ?_ _ | with_reducible refine Kept.alloc ?_ _ | (with_reducible refine Kept.setCell ?_ (by first | exact Nat.le_refl _ | omega | (simp; done) | (simp; omega)) _) | (with_reducible refine Kept.trans ?_ (by with_reducible assumption))))⟩
theorem of_other (k m d o wd c : Int) (w : World) (h1 : k ≠ 1) (h2 : k ≠ 2) (h3 : k ≠ 3) :
    Calls Tryz.prog 251 #[.agg #[.int .i64 k, .int .i64 m, .int .i64 d, .int .i64 o, .int .i64 wd, .int .i64 c]] w fun e w' => e = .returned .nilIface ∧ Kept w w' := by
  have g1 : (k == 1) = false := by simpa using h1
  have g2 : (k == 2) = false := by simpa using h2
  have g3 : (k == 3) = false := by simpa using h3
  go_enter Tryz.func251, Tryz.ntmps251
  go_wp2
  go_ret
  exact ⟨rfl, (by repeat (first | with_reducible exact Kept.refl _ | with_reducible assumption | with_reducible refine Kept.drew ?_ | with_reducible refine Kept.drewN ?_ _ | with_reducible refine Kept.alloc ?_ _ | (with_reducible refine Kept.setCell ?_ (by first | exact Nat.le_refl _ | omega | (simp; done) | (simp; omega)) _) | (with_reducible refine Kept.trans ?_ (by with_reducible assumption))))⟩
/-- A well-formed anchor. -/
def ancB (k m d o wd c : Int) : Bool :=
  if k = 1 then decide (o = 0 ∧ wd = 0 ∧ c = 0) && ancF m d
  else if k = 2 then decide (m = 0 ∧ d = 0 ∧ wd = 0 ∧ c = 0) && ancP o
  else if k = 3 then decide (o = 0) && ancN m d wd c
  else false
theorem ACheck_any (k m d o wd c : Int) (w : World) (bc : -9223372036854775808 ≤ c ∧ c ≤ 9223372036854775807) :
    Calls Tryz.prog 250 #[.agg #[.int .i64 k, .int .i64 m, .int .i64 d, .int .i64 o, .int .i64 wd, .int .i64 c]] w fun e w' => e = .returned (.bool (ancB k m d o wd c)) ∧ Kept w w' := by
  have nil : ancB k m d o wd c = false → (∀ w, Calls Tryz.prog 251 #[.agg #[.int .i64 k, .int .i64 m, .int .i64 d, .int .i64 o, .int .i64 wd, .int .i64 c]] w fun e w' => e = .returned .nilIface ∧ Kept w w') →
      Calls Tryz.prog 250 #[.agg #[.int .i64 k, .int .i64 m, .int .i64 d, .int .i64 o, .int .i64 wd, .int .i64 c]] w fun e w' => e = .returned (.bool (ancB k m d o wd c)) ∧ Kept w w' := by
    intro e H
    rw [e]
    have KO := Lib.hid H
    clear e H
    go_enter Tryz.func250, Tryz.ntmps250
    go_wp2_with fail
    go_at_call 251
    (with_reducible refine (KO.out _).mono ?_)
    rintro e w1 ⟨rfl, hk1⟩
    go_wp2
    go_ret
    exact ⟨rfl, (by repeat (first | with_reducible exact Kept.refl _ | with_reducible assumption | with_reducible refine Kept.drew ?_ | with_reducible refine Kept.drewN ?_ _ | with_reducible refine Kept.alloc ?_ _ | (with_reducible refine Kept.setCell ?_ (by first | exact Nat.le_refl _ | omega | (simp; done) | (simp; omega)) _) | (with_reducible refine Kept.trans ?_ (by with_reducible assumption))))⟩
  have hm1 : ∀ (v : Value) (w : World), (method 449 316 v "computus/anchor.valid").run Tryz.prog w = .ok (318, v) w := fun _ _ => by kernel_rfl
  have hm2 : ∀ (v : Value) (w : World), (method 449 318 v "computus/anchor.valid").run Tryz.prog w = .ok (320, v) w := fun _ _ => by kernel_rfl
  have hm3 : ∀ (v : Value) (w : World), (method 449 320 v "computus/anchor.valid").run Tryz.prog w = .ok (322, v) w := fun _ _ => by kernel_rfl
  by_cases k1 : k = 1
  · subst k1
    have e : ancB 1 m d o wd c = (decide (o = 0 ∧ wd = 0 ∧ c = 0) && ancF m d) := if_pos rfl
    by_cases h : o = 0 ∧ wd = 0 ∧ c = 0
    · rw [e, decide_eq_true h, Bool.true_and]
      have KO := Lib.hid (fun w => of_fixed m d o wd c w h)
      have KV := Lib.hid (fun w => fixed_valid m d w)
      generalize ancF m d = b at *
      clear nil e h hm2 hm3
      go_enter Tryz.func250, Tryz.ntmps250
      go_wp2_with fail
      go_at_call 251
      (with_reducible refine (KO.out _).mono ?_)
      rintro e w1 ⟨rfl, hk1⟩
      go_wp2_with fail
      go_at_call 318
      (with_reducible refine (KV.out _).mono ?_)
      rintro e w2 ⟨rfl, hk2⟩
      go_wp2
      go_ret
      exact ⟨rfl, (by repeat (first | with_reducible exact Kept.refl _ | with_reducible assumption | with_reducible refine Kept.drew ?_ | with_reducible refine Kept.drewN ?_ _ | with_reducible refine Kept.alloc ?_ _ | (with_reducible refine Kept.setCell ?_ (by first | exact Nat.le_refl _ | omega | (simp; done) | (simp; omega)) _) | (with_reducible refine Kept.trans ?_ (by with_reducible assumption))))⟩
    · exact nil (by rw [e, decide_eq_false h]; rfl) (fun w => of_fixed_no m d o wd c w h)
  · by_cases k2 : k = 2
    · subst k2
      have e : ancB 2 m d o wd c = (decide (m = 0 ∧ d = 0 ∧ wd = 0 ∧ c = 0) && ancP o) := by unfold ancB; rw [if_neg (by decide), if_pos rfl]
      by_cases h : m = 0 ∧ d = 0 ∧ wd = 0 ∧ c = 0
      · rw [e, decide_eq_true h, Bool.true_and]
        obtain ⟨rfl, rfl, rfl, rfl⟩ := h
        have KO := Lib.hid (fun w => of_paschal o w)
        have KV := Lib.hid (fun w => paschal_valid o w)
        generalize ancP o = b at *
        clear nil e hm1 hm3
        go_enter Tryz.func250, Tryz.ntmps250
        go_wp2_with fail
        go_at_call 251
        (with_reducible refine (KO.out _).mono ?_)
        rintro e w1 ⟨rfl, hk1⟩
        go_wp2_with fail
        go_at_call 320
        (with_reducible refine (KV.out _).mono ?_)
        rintro e w2 ⟨rfl, hk2⟩
        go_wp2
        go_ret
        exact ⟨rfl, (by repeat (first | with_reducible exact Kept.refl _ | with_reducible assumption | with_reducible refine Kept.drew ?_ | with_reducible refine Kept.drewN ?_ _ | with_reducible refine Kept.alloc ?_ _ | (with_reducible refine Kept.setCell ?_ (by first | exact Nat.le_refl _ | omega | (simp; done) | (simp; omega)) _) | (with_reducible refine Kept.trans ?_ (by with_reducible assumption))))⟩
      · exact nil (by rw [e, decide_eq_false h]; rfl) (fun w => of_paschal_no m d o wd c w h)
    · by_cases k3 : k = 3
      · subst k3
        have e : ancB 3 m d o wd c = (decide (o = 0) && ancN m d wd c) := by unfold ancB; rw [if_neg (by decide), if_neg (by decide), if_pos rfl]
        by_cases h : o = 0
        · rw [e, decide_eq_true h, Bool.true_and]
          subst h
          have KO := Lib.hid (fun w => of_nth m d wd c w)
          have KV := Lib.hid (fun w => nth_valid m d wd c w bc)
          generalize ancN m d wd c = b at *
          clear nil e hm1 hm2
          go_enter Tryz.func250, Tryz.ntmps250
          go_wp2_with fail
          go_at_call 251
          (with_reducible refine (KO.out _).mono ?_)
          rintro e w1 ⟨rfl, hk1⟩
          go_wp2_with fail
          go_at_call 322
          (with_reducible refine (KV.out _).mono ?_)
          rintro e w2 ⟨rfl, hk2⟩
          go_wp2
          go_ret
          exact ⟨rfl, (by repeat (first | with_reducible exact Kept.refl _ | with_reducible assumption | with_reducible refine Kept.drew ?_ | with_reducible refine Kept.drewN ?_ _ | with_reducible refine Kept.alloc ?_ _ | (with_reducible refine Kept.setCell ?_ (by first | exact Nat.le_refl _ | omega | (simp; done) | (simp; omega)) _) | (with_reducible refine Kept.trans ?_ (by with_reducible assumption))))⟩
        · exact nil (by rw [e, decide_eq_false h]; rfl) (fun w => of_nth_no m d o wd c w h)
      · exact nil (by unfold ancB; rw [if_neg k1, if_neg k2, if_neg k3]) (fun w => of_other k m d o wd c w k1 k2 k3)
end Go.Proofs.YtblaphkaklocfaaGreatDoor
/- Contracts: the reference of layer 16: Check. -/
namespace Go.Proofs.YtblaphkaklocfaaGreatDoor
open Go.ChangeShapes Go.WideShapes Go.ChangeAt Go.RowKit
set_option maxHeartbeats 1000000
set_option maxRecDepth 20000

theorem rOfYear_ok (m d : Int) (w : World) (h : Ex m d) :
    Calls Tryz.prog 205 #[.int .i64 m, .int .i64 d] w fun e w' => e = .returned (.int .i64 (atY m d)) ∧ Kept w w' := by
  have KT := Lib.hid (fun w => rToDay_all 2001 m d w)
  have KF := Lib.hid (fun w => rFirst_any 2001 w (by decide) (by decide))
  rw [fst2001] at KF
  rw [(day2001 m d h).1, (day2001 m d h).2, fst2001] at KT
  have hd := dayN_range m d h
  have hA : atY m d = 730486 + dayN m d - 730486 + 1 := by unfold atY; omega
  rw [hA]
  generalize dayN m d = p at *
  clear hA h
  go_enter Tryz.func205, Tryz.ntmps205
  go_wp2_with fail
  (go_at_call 15; refine (KT.out _).mono ?_; rintro e w1 ⟨rfl, hk1⟩)
  go_wp2_with fail
  (go_at_call 20; refine (KF.out _).mono ?_; rintro e w1 ⟨rfl, rfl⟩)
  go_wp2
  go_ret
  exact ⟨rfl, (by repeat (first | with_reducible exact Kept.refl _ | with_reducible assumption | with_reducible refine Kept.drew ?_ | with_reducible refine Kept.drewN ?_ _ | with_reducible refine Kept.alloc ?_ _ | (with_reducible refine Kept.setCell ?_ (by first | exact Nat.le_refl _ | omega | (simp; done) | (simp; omega)) _) | (with_reducible refine Kept.trans ?_ (by with_reducible assumption))))⟩
set_option maxHeartbeats 4000000 in
theorem rACheck_any (k m d o wd c : Int) (w : World) (bc : -9223372036854775808 ≤ c ∧ c ≤ 9223372036854775807) :
    Calls Tryz.prog 151 #[.agg #[.int .i64 k, .int .i64 m, .int .i64 d, .int .i64 o, .int .i64 wd, .int .i64 c]] w fun e w' => e = .returned (.bool (ancB k m d o wd c)) ∧ Kept w w' := by
  by_cases k2 : k = 2
  · subst k2
    have e : ancB 2 m d o wd c = (decide (m = 0 ∧ d = 0 ∧ wd = 0 ∧ c = 0) && decide (-80 ≤ o ∧ o ≤ 250)) := by unfold ancB; rw [if_neg (by decide), if_pos rfl]; rfl
    have hcase : ∃ b : Bool, ancB 2 m d o wd c = b ∧ ((m ≠ 0 ∧ b = false) ∨ (m = 0 ∧ d ≠ 0 ∧ b = false) ∨ (m = 0 ∧ d = 0 ∧ wd ≠ 0 ∧ b = false) ∨ (m = 0 ∧ d = 0 ∧ wd = 0 ∧ c ≠ 0 ∧ b = false) ∨ (m = 0 ∧ d = 0 ∧ wd = 0 ∧ c = 0 ∧ o < -80 ∧ b = false) ∨ (m = 0 ∧ d = 0 ∧ wd = 0 ∧ c = 0 ∧ -80 ≤ o ∧ 250 < o ∧ b = false) ∨ (m = 0 ∧ d = 0 ∧ wd = 0 ∧ c = 0 ∧ -80 ≤ o ∧ o ≤ 250 ∧ b = true)) := by
      refine ⟨_, rfl, ?_⟩
      rw [e]
      simp only [← Bool.decide_and, decide_eq_true_eq, decide_eq_false_iff_not]
      omega
    obtain ⟨b, hb, hcase⟩ := hcase
    rw [hb]
    clear e hb
    rcases hcase with ⟨h1, rfl⟩ | ⟨rfl, h1, rfl⟩ | ⟨rfl, rfl, h1, rfl⟩ | ⟨rfl, rfl, rfl, h1, rfl⟩ | ⟨rfl, rfl, rfl, rfl, h1, rfl⟩ | ⟨rfl, rfl, rfl, rfl, h1, h2, rfl⟩ | ⟨rfl, rfl, rfl, rfl, h1, h2, rfl⟩
    · have g := beq_false_of_ne h1
      go_enter Tryz.func151, Tryz.ntmps151
      go_wp2
      go_ret
      exact ⟨rfl, (by repeat (first | with_reducible exact Kept.refl _ | with_reducible assumption | with_reducible refine Kept.drew ?_ | with_reducible refine Kept.drewN ?_ _ | with_reducible refine Kept.alloc ?_ _ | (with_reducible refine Kept.setCell ?_ (by first | exact Nat.le_refl _ | omega | (simp; done) | (simp; omega)) _) | (with_reducible refine Kept.trans ?_ (by with_reducible assumption))))⟩
    · have g := beq_false_of_ne h1
      go_enter Tryz.func151, Tryz.ntmps151
      go_wp2
      go_ret
      exact ⟨rfl, (by repeat (first | with_reducible exact Kept.refl _ | with_reducible assumption | with_reducible refine Kept.drew ?_ | with_reducible refine Kept.drewN ?_ _ | with_reducible refine Kept.alloc ?_ _ | (with_reducible refine Kept.setCell ?_ (by first | exact Nat.le_refl _ | omega | (simp; done) | (simp; omega)) _) | (with_reducible refine Kept.trans ?_ (by with_reducible assumption))))⟩
    · have g := beq_false_of_ne h1
      go_enter Tryz.func151, Tryz.ntmps151
      go_wp2
      go_ret
      exact ⟨rfl, (by repeat (first | with_reducible exact Kept.refl _ | with_reducible assumption | with_reducible refine Kept.drew ?_ | with_reducible refine Kept.drewN ?_ _ | with_reducible refine Kept.alloc ?_ _ | (with_reducible refine Kept.setCell ?_ (by first | exact Nat.le_refl _ | omega | (simp; done) | (simp; omega)) _) | (with_reducible refine Kept.trans ?_ (by with_reducible assumption))))⟩
    · have g := beq_false_of_ne h1
      go_enter Tryz.func151, Tryz.ntmps151
      go_wp2
      go_ret
      exact ⟨rfl, (by repeat (first | with_reducible exact Kept.refl _ | with_reducible assumption | with_reducible refine Kept.drew ?_ | with_reducible refine Kept.drewN ?_ _ | with_reducible refine Kept.alloc ?_ _ | (with_reducible refine Kept.setCell ?_ (by first | exact Nat.le_refl _ | omega | (simp; done) | (simp; omega)) _) | (with_reducible refine Kept.trans ?_ (by with_reducible assumption))))⟩
    all_goals
      go_enter Tryz.func151, Tryz.ntmps151
      go_wp2
      go_ret
      refine ⟨?_, (by repeat (first | with_reducible exact Kept.refl _ | with_reducible assumption | with_reducible refine Kept.drew ?_ | with_reducible refine Kept.drewN ?_ _ | with_reducible refine Kept.alloc ?_ _ | (with_reducible refine Kept.setCell ?_ (by first | exact Nat.le_refl _ | omega | (simp; done) | (simp; omega)) _) | (with_reducible refine Kept.trans ?_ (by with_reducible assumption))))⟩
      first
      | rfl
      | (show Ending.returned (Value.bool _) = Ending.returned (Value.bool _); apply ret_bool; first | (apply decide_eq_true; omega) | (apply decide_eq_false; omega))
  · have gk := beq_false_of_ne k2
    have KX := Lib.hid (fun w => rExists_of m d w)
    by_cases hex : Ex m d
    · rw [decide_eq_true hex] at KX
      have KY := Lib.hid (fun w => rOfYear_ok m d w hex)
      have hF : ancF m d = true := by rw [ancF_ex, decide_eq_true hex]
      have hx : 1 ≤ d ∧ d ≤ mlen false m := by simpa [ancF] using hF
      have hd := dayN_range m d hex
      have hA : atY m d = dayN m d + 1 := rfl
      have hcase : ∃ b : Bool, ancB k m d o wd c = b ∧ ((o ≠ 0 ∧ b = false) ∨ o = 0 ∧ ((k = 1 ∧ (wd ≠ 0 ∧ b = false ∨ wd = 0 ∧ c ≠ 0 ∧ b = false ∨ wd = 0 ∧ c = 0 ∧ b = true)) ∨ (k ≠ 1 ∧ k ≠ 3 ∧ b = false) ∨
          k = 3 ∧ ((wd < 0 ∧ b = false) ∨ (6 < wd ∧ 0 ≤ wd ∧ b = false) ∨ ((0 ≤ wd ∧ wd ≤ 6) ∧ ((1 ≤ c ∧ c ≤ 8 ∧ atY m d + 6 + 7 * (c - 1) ≤ 365 ∧ b = true) ∨ (1 ≤ c ∧ c ≤ 8 ∧ ¬ atY m d + 6 + 7 * (c - 1) ≤ 365 ∧ b = false) ∨ (c ≤ -1 ∧ -8 ≤ c ∧ 1 ≤ atY m d - 6 - 7 * (0 - c - 1) ∧ b = true) ∨ (c ≤ -1 ∧ -8 ≤ c ∧ ¬ 1 ≤ atY m d - 6 - 7 * (0 - c - 1) ∧ b = false) ∨ (c = 0 ∧ b = false) ∨ (9 ≤ c ∧ b = false) ∨ (c ≤ -9 ∧ b = false)))))) := by
        refine ⟨_, rfl, ?_⟩
        by_cases k1 : k = 1
        · have e : ancB k m d o wd c = (decide (o = 0 ∧ wd = 0 ∧ c = 0) && true) := by unfold ancB; rw [if_pos k1, hF]
          rw [e]
          simp only [Bool.and_true, decide_eq_true_eq, decide_eq_false_iff_not]
          omega
        · by_cases k3 : k = 3
          · have e : ancB k m d o wd c = (decide (o = 0) && ancN m d wd c) := by unfold ancB; rw [if_neg k1, if_neg k2, if_pos k3]
            rw [e]
            unfold ancN
            simp only [← Bool.decide_and, decide_eq_true_eq, decide_eq_false_iff_not]
            omega
          · have e : ancB k m d o wd c = false := by unfold ancB; rw [if_neg k1, if_neg k2, if_neg k3]
            rw [e]
            by_cases ho : o = 0
            · exact .inr ⟨ho, .inr (.inl ⟨k1, k3, rfl⟩)⟩
            · exact .inl ⟨ho, rfl⟩
      obtain ⟨b, hb, hcase⟩ := hcase
      rw [hb]
      rw [hA] at hcase KY
      clear hb hF hA hx hex
      generalize dayN m d = p at *
      rcases hcase with ⟨h1, rfl⟩ | ⟨rfl, hcase⟩
      · have g := beq_false_of_ne h1
        go_enter Tryz.func151, Tryz.ntmps151
        go_wp2_with (go_at_call 130; refine (KX.out _).mono ?_; rintro e w1 ⟨rfl, rfl⟩)
        go_ret
        exact ⟨rfl, (by repeat (first | with_reducible exact Kept.refl _ | with_reducible assumption | with_reducible refine Kept.drew ?_ | with_reducible refine Kept.drewN ?_ _ | with_reducible refine Kept.alloc ?_ _ | (with_reducible refine Kept.setCell ?_ (by first | exact Nat.le_refl _ | omega | (simp; done) | (simp; omega)) _) | (with_reducible refine Kept.trans ?_ (by with_reducible assumption))))⟩
      · rcases hcase with ⟨rfl, hcase⟩ | ⟨h1, h2, rfl⟩ | ⟨rfl, hcase⟩
        · rcases hcase with ⟨h1, rfl⟩ | ⟨rfl, h1, rfl⟩ | ⟨rfl, rfl, rfl⟩
          · have g := beq_false_of_ne h1
            go_enter Tryz.func151, Tryz.ntmps151
            go_wp2_with (go_at_call 130; refine (KX.out _).mono ?_; rintro e w1 ⟨rfl, rfl⟩)
            go_ret
            exact ⟨rfl, (by repeat (first | with_reducible exact Kept.refl _ | with_reducible assumption | with_reducible refine Kept.drew ?_ | with_reducible refine Kept.drewN ?_ _ | with_reducible refine Kept.alloc ?_ _ | (with_reducible refine Kept.setCell ?_ (by first | exact Nat.le_refl _ | omega | (simp; done) | (simp; omega)) _) | (with_reducible refine Kept.trans ?_ (by with_reducible assumption))))⟩
          · have g := beq_false_of_ne h1
            go_enter Tryz.func151, Tryz.ntmps151
            go_wp2_with (go_at_call 130; refine (KX.out _).mono ?_; rintro e w1 ⟨rfl, rfl⟩)
            go_ret
            exact ⟨rfl, (by repeat (first | with_reducible exact Kept.refl _ | with_reducible assumption | with_reducible refine Kept.drew ?_ | with_reducible refine Kept.drewN ?_ _ | with_reducible refine Kept.alloc ?_ _ | (with_reducible refine Kept.setCell ?_ (by first | exact Nat.le_refl _ | omega | (simp; done) | (simp; omega)) _) | (with_reducible refine Kept.trans ?_ (by with_reducible assumption))))⟩
          · go_enter Tryz.func151, Tryz.ntmps151
            go_wp2_with (go_at_call 130; refine (KX.out _).mono ?_; rintro e w1 ⟨rfl, rfl⟩)
            go_ret
            exact ⟨rfl, (by repeat (first | with_reducible exact Kept.refl _ | with_reducible assumption | with_reducible refine Kept.drew ?_ | with_reducible refine Kept.drewN ?_ _ | with_reducible refine Kept.alloc ?_ _ | (with_reducible refine Kept.setCell ?_ (by first | exact Nat.le_refl _ | omega | (simp; done) | (simp; omega)) _) | (with_reducible refine Kept.trans ?_ (by with_reducible assumption))))⟩
        · have g1 := beq_false_of_ne h1
          have g2 := beq_false_of_ne h2
          go_enter Tryz.func151, Tryz.ntmps151
          go_wp2_with fail
          (go_at_call 130; (with_reducible refine (KX.out _).mono ?_); rintro e w1 ⟨rfl, rfl⟩)
          go_wp2_with fail
          (go_at_call 205; refine (KY.out _).mono ?_; rintro e w1 ⟨rfl, hk1⟩)
          have hB1_1 := hk1
          obtain ⟨hc1_1, hf1_1⟩ := kept_cells hB1_1
          have hz1_0_1 : w.heap.size < w1.heap.size := by have := hB1_1.size; simp at this; omega
          go_wp2
          go_ret
          exact ⟨rfl, (by repeat (first | with_reducible exact Kept.refl _ | with_reducible assumption | with_reducible refine Kept.drew ?_ | with_reducible refine Kept.drewN ?_ _ | with_reducible refine Kept.alloc ?_ _ | (with_reducible refine Kept.setCell ?_ (by first | exact Nat.le_refl _ | omega | (simp; done) | (simp; omega)) _) | (with_reducible refine Kept.trans ?_ (by with_reducible assumption))))⟩
        · rcases hcase with ⟨h1, rfl⟩ | ⟨h1, h2, rfl⟩ | ⟨⟨h1, h2⟩, ⟨h3, h4, h5, rfl⟩ | ⟨h3, h4, h5, rfl⟩ | ⟨h3, h4, h5, rfl⟩ | ⟨h3, h4, h5, rfl⟩ | ⟨rfl, rfl⟩ | ⟨h3, rfl⟩ | ⟨h3, rfl⟩⟩
          all_goals
            go_enter Tryz.func151, Tryz.ntmps151
            go_wp2_with fail
            (go_at_call 130; (with_reducible refine (KX.out _).mono ?_); rintro e w1 ⟨rfl, rfl⟩)
            go_wp2_with fail
            (go_at_call 205; refine (KY.out _).mono ?_; rintro e w1 ⟨rfl, hk1⟩)
            have hB1_1 := hk1
            obtain ⟨hc1_1, hf1_1⟩ := kept_cells hB1_1
            have hz1_0_1 : w.heap.size < w1.heap.size := by have := hB1_1.size; simp at this; omega
            go_wp2
            go_ret
            refine ⟨?_, (by repeat (first | with_reducible exact Kept.refl _ | with_reducible assumption | with_reducible refine Kept.drew ?_ | with_reducible refine Kept.drewN ?_ _ | with_reducible refine Kept.alloc ?_ _ | (with_reducible refine Kept.setCell ?_ (by first | exact Nat.le_refl _ | omega | (simp; done) | (simp; omega)) _) | (with_reducible refine Kept.trans ?_ (by with_reducible assumption))))⟩
            first
            | rfl
            | (show Ending.returned (Value.bool _) = Ending.returned (Value.bool _); apply ret_bool; first | (apply decide_eq_true; omega) | (apply decide_eq_false; omega))
    · rw [decide_eq_false hex] at KX
      have e : ancB k m d o wd c = false := by
        have hF : ancF m d = false := by rw [ancF_ex, decide_eq_false hex]
        have hx : ¬ (1 ≤ d ∧ d ≤ mlen false m) := by simpa [ancF] using hF
        have hN : ancN m d wd c = false := by unfold ancN; rw [decide_eq_false_iff_not]; exact fun g => hx g.1
        unfold ancB
        rw [if_neg k2, hF, hN]
        simp
      rw [e]
      clear e hex
      go_enter Tryz.func151, Tryz.ntmps151
      go_wp2_with (go_at_call 130; refine (KX.out _).mono ?_; rintro e w1 ⟨rfl, rfl⟩)
      go_ret
      exact ⟨rfl, (by repeat (first | with_reducible exact Kept.refl _ | with_reducible assumption | with_reducible refine Kept.drew ?_ | with_reducible refine Kept.drewN ?_ _ | with_reducible refine Kept.alloc ?_ _ | (with_reducible refine Kept.setCell ?_ (by first | exact Nat.le_refl _ | omega | (simp; done) | (simp; omega)) _) | (with_reducible refine Kept.trans ?_ (by with_reducible assumption))))⟩
end Go.Proofs.YtblaphkaklocfaaGreatDoor

/- CyclePeriods. -/
import Derived.Test.YtekgaihdfnhkpaaCycAw
import Derived.Test.YtekgaihdfnhkpaaRows
set_option linter.unusedSimpArgs false
set_option linter.unusedVariables false
set_option linter.unusedSectionVars false
namespace Go.Proofs.Ytekgaihdfnhkpaa
open Go.ChangeShapes Go.WideShapes Go.ChangeAt Go.RowKit
set_option maxHeartbeats 1000000
set_option maxRecDepth 20000

/-- Years on one year: how many there are. -/
theorem Years_one (k y m d : Int) (w : World) (h : Fit k y) :
    Calls Try.prog 14 #[.int .i64 k, .int .i64 y, .int .i64 y, .int .i64 m, .int .i64 d] w fun e w' => ∃ o q, e = .returned (.tuple #[.slice o (if onB k m d y then 1 else 0) q, .int .i64 0]) ∧ Kept w w' := by
  have hr : rgE k y y = 0 := by
    unfold rgE
    rcases fl_cases k y with ⟨_, e⟩ | ⟨g, e⟩ | ⟨g, e⟩
    · rw [if_neg (by omega), if_neg (by omega), if_neg (by omega)]
    · unfold Off at g; unfold Fit at h; omega
    · unfold Fit at h; omega
  have hy := Years_ok k y y m d w hr
  have e1 : (y - y).toNat + 1 = 1 := by omega
  rw [e1] at hy
  refine hy.mono ?_
  rintro e w' ⟨o, q, rfl, _, hk⟩
  refine ⟨o, q, ?_, hk⟩
  have e2 : (yrs k y m d 1).length = if onB k m d y then 1 else 0 := by
    have : yrs k y m d 1 = if onB k m d (y + (0 : Nat)) then [] ++ [y + ((0 : Nat) : Int)] else [] := rfl
    rw [this]
    simp only [Int.natCast_zero, Int.add_zero] 
    split <;> rfl
  rw [e2]
theorem Periods_core (k y m d p : Int) (hk : k = 1 ∧ p = 532 ∨ k = 2 ∧ p = 5700000) (hf : Fit k y) (hy : y ≤ 990000000) :
    (∃ n : Nat, n ≤ 1 ∧ (∀ w, Calls Try.prog 14 #[.int .i64 k, .int .i64 y, .int .i64 y, .int .i64 m, .int .i64 d] w fun e w' => ∃ o q, e = .returned (.tuple #[.slice o n q, .int .i64 0]) ∧ Kept w w') ∧
      (∀ w, Calls Try.prog 14 #[.int .i64 k, .int .i64 (y + p), .int .i64 (y + p), .int .i64 m, .int .i64 d] w fun e w' => ∃ o q, e = .returned (.tuple #[.slice o n q, .int .i64 0]) ∧ Kept w w')) ∧
    (∃ a b : Int, (∀ w, Calls Try.prog 15 #[.int .i64 k, .int .i64 y] w fun e w' => e = .returned (.agg #[.int .i64 y, .int .i64 a, .int .i64 b]) ∧ Kept w w') ∧
      (∀ w, Calls Try.prog 15 #[.int .i64 k, .int .i64 (y + p)] w fun e w' => e = .returned (.agg #[.int .i64 (y + p), .int .i64 a, .int .i64 b]) ∧ Kept w w')) := by
  have hf2 : Fit k (y + p) := by unfold Fit at *; omega
  have he : easI k (y + p) = easI k y := by
    rcases hk with ⟨rfl, rfl⟩ | ⟨rfl, rfl⟩
    · exact eas_1 y
    · exact eas_2 y
  have ho : onB k m d (y + p) = onB k m d y := by unfold onB; rw [he]
  refine ⟨⟨if onB k m d y then 1 else 0, by split <;> omega, fun w => Years_one k y m d w hf, fun w => ?_⟩, dmo (easI k y), dda (easI k y), fun w => rDate_ok k y w hf, fun w => ?_⟩
  · have := Years_one k (y + p) m d w hf2
    rwa [ho] at this
  · have := rDate_ok k (y + p) w hf2
    rwa [he] at this
set_option maxHeartbeats 2000000 in
theorem CyclePeriods_walk (c y m d : Int) (bc : 0 ≤ c ∧ c ≤ 255) (by0 : -9223372036854775808 ≤ y ∧ y ≤ 9223372036854775807) (_b1 : -9223372036854775808 ≤ m ∧ m ≤ 9223372036854775807) (_b2 : -9223372036854775808 ≤ d ∧ d ≤ 9223372036854775807) (w : World) :
    Calls Try.prog 4 #[.int .u8 c, .int .i64 y, .int .i64 m, .int .i64 d] w fun e w' => e = .returned (.bool true) ∧ Kept w w' := by
  obtain ⟨bc1, bc2⟩ := bc
  obtain ⟨by1, by2⟩ := by0
  have hk : c % 2 = 0 ∨ c % 2 = 1 := by omega
  rcases hk with hk | hk
  · have KP := Lib.hid (fun w => Period_1 w)
    by_cases g1 : 1 ≤ y
    · by_cases g2 : y ≤ 1000000000
      · have KI := Lib.hid (fun w => In_yes y w g1 g2)
        by_cases g3 : y ≤ 990000000
        · obtain ⟨⟨n, hn, Y1, Y2⟩, a, b, D1, D2⟩ := Periods_core 1 y m d 532 (.inl ⟨rfl, rfl⟩) (by unfold Fit; omega) g3
          have Y1 := Lib.hid Y1
          have Y2 := Lib.hid Y2
          have D1 := Lib.hid D1
          have D2 := Lib.hid D2
          go_enter Try.func4, Try.ntmps4
          go_wp2_with fail
          (go_at_call 11; (with_reducible refine (KP.out _).mono ?_); rintro e w1 ⟨rfl, rfl⟩)
          go_wp2_with fail
          (go_at_call 8; (with_reducible refine (Cyc_awake _).mono ?_); rintro e w1 ⟨rfl, hk1⟩)
          go_wp2_with fail
          (go_at_call 12; (with_reducible refine (KI.out _).mono ?_); rintro e w1 ⟨rfl, rfl⟩)
          go_wp2_with fail
          go_at_call 14
          refine (Y1.out _).mono ?_
          rintro e w2 ⟨o1, q1, rfl, hk2⟩
          go_wp2_with fail
          go_at_call 14
          refine (Y2.out _).mono ?_
          rintro e w3 ⟨o2, q2, rfl, hk3⟩
          go_wp2_with fail
          (go_at_call 15; refine (D1.out _).mono ?_; rintro e w4 ⟨rfl, hk4⟩)
          have K4 := (((hk1.trans hk2).trans hk3).trans hk4)
          go_wp2_with fail
          (go_at_call 15; refine (D2.out _).mono ?_; rintro e w5 ⟨rfl, hk5⟩)
          obtain ⟨hc5, hf5⟩ := kept_cells hk5
          have hz5 : w4.heap.size < w5.heap.size := by have := hk5.size; simp at this; omega
          go_wp2
          go_ret
          exact ⟨rfl, (by repeat (first | with_reducible exact Kept.refl _ | with_reducible assumption | with_reducible refine Kept.drew ?_ | with_reducible refine Kept.drewN ?_ _ | with_reducible refine Kept.alloc ?_ _ | (with_reducible refine Kept.setCell ?_ (by first | exact Nat.le_refl _ | omega | (simp; done) | (simp; omega)) _) | (with_reducible refine Kept.trans ?_ (by with_reducible assumption))))⟩
        · go_enter Try.func4, Try.ntmps4
          go_wp2_with fail
          (go_at_call 11; (with_reducible refine (KP.out _).mono ?_); rintro e w1 ⟨rfl, rfl⟩)
          go_wp2_with fail
          (go_at_call 8; (with_reducible refine (Cyc_awake _).mono ?_); rintro e w1 ⟨rfl, hk1⟩)
          go_wp2_with fail
          (go_at_call 12; (with_reducible refine (KI.out _).mono ?_); rintro e w1 ⟨rfl, rfl⟩)
          go_wp2_with fail
          (go_at_call 8; refine (Cyc_awake _).mono ?_; rintro e w2 ⟨rfl, hk2⟩)
          go_wp2
          go_ret
          exact ⟨rfl, (by repeat (first | with_reducible exact Kept.refl _ | with_reducible assumption | with_reducible refine Kept.drew ?_ | with_reducible refine Kept.drewN ?_ _ | with_reducible refine Kept.alloc ?_ _ | (with_reducible refine Kept.setCell ?_ (by first | exact Nat.le_refl _ | omega | (simp; done) | (simp; omega)) _) | (with_reducible refine Kept.trans ?_ (by with_reducible assumption))))⟩
      · have KI := Lib.hid (fun w => In_no y w (.inr (by omega)))
        go_enter Try.func4, Try.ntmps4
        go_wp2_with fail
        (go_at_call 11; (with_reducible refine (KP.out _).mono ?_); rintro e w1 ⟨rfl, rfl⟩)
        go_wp2_with fail
        (go_at_call 8; (with_reducible refine (Cyc_awake _).mono ?_); rintro e w1 ⟨rfl, hk1⟩)
        go_wp2_with fail
        (go_at_call 12; (with_reducible refine (KI.out _).mono ?_); rintro e w1 ⟨rfl, rfl⟩)
        go_wp2_with fail
        (go_at_call 8; refine (Cyc_awake _).mono ?_; rintro e w2 ⟨rfl, hk2⟩)
        go_wp2
        go_ret
        exact ⟨rfl, (by repeat (first | with_reducible exact Kept.refl _ | with_reducible assumption | with_reducible refine Kept.drew ?_ | with_reducible refine Kept.drewN ?_ _ | with_reducible refine Kept.alloc ?_ _ | (with_reducible refine Kept.setCell ?_ (by first | exact Nat.le_refl _ | omega | (simp; done) | (simp; omega)) _) | (with_reducible refine Kept.trans ?_ (by with_reducible assumption))))⟩
    · have KI := Lib.hid (fun w => In_no y w (.inl (by omega)))
      go_enter Try.func4, Try.ntmps4
      go_wp2_with fail
      (go_at_call 11; (with_reducible refine (KP.out _).mono ?_); rintro e w1 ⟨rfl, rfl⟩)
      go_wp2_with fail
      (go_at_call 8; (with_reducible refine (Cyc_awake _).mono ?_); rintro e w1 ⟨rfl, hk1⟩)
      go_wp2_with fail
      (go_at_call 12; (with_reducible refine (KI.out _).mono ?_); rintro e w1 ⟨rfl, rfl⟩)
      go_wp2_with fail
      (go_at_call 8; refine (Cyc_awake _).mono ?_; rintro e w2 ⟨rfl, hk2⟩)
      go_wp2
      go_ret
      exact ⟨rfl, (by repeat (first | with_reducible exact Kept.refl _ | with_reducible assumption | with_reducible refine Kept.drew ?_ | with_reducible refine Kept.drewN ?_ _ | with_reducible refine Kept.alloc ?_ _ | (with_reducible refine Kept.setCell ?_ (by first | exact Nat.le_refl _ | omega | (simp; done) | (simp; omega)) _) | (with_reducible refine Kept.trans ?_ (by with_reducible assumption))))⟩
  · have KP := Lib.hid (fun w => Period_2 w)
    by_cases g1 : 1583 ≤ y
    · by_cases g2 : y ≤ 1000000000
      · have KI := Lib.hid (fun w => InG_yes y w g1 g2)
        by_cases g3 : y ≤ 990000000
        · obtain ⟨⟨n, hn, Y1, Y2⟩, a, b, D1, D2⟩ := Periods_core 2 y m d 5700000 (.inr ⟨rfl, rfl⟩) (by unfold Fit; omega) g3
          have Y1 := Lib.hid Y1
          have Y2 := Lib.hid Y2
          have D1 := Lib.hid D1
          have D2 := Lib.hid D2
          go_enter Try.func4, Try.ntmps4
          go_wp2_with fail
          (go_at_call 11; (with_reducible refine (KP.out _).mono ?_); rintro e w1 ⟨rfl, rfl⟩)
          go_wp2_with fail
          (go_at_call 8; (with_reducible refine (Cyc_awake _).mono ?_); rintro e w1 ⟨rfl, hk1⟩)
          go_wp2_with fail
          (go_at_call 13; (with_reducible refine (KI.out _).mono ?_); rintro e w1 ⟨rfl, rfl⟩)
          go_wp2_with fail
          go_at_call 14
          refine (Y1.out _).mono ?_
          rintro e w2 ⟨o1, q1, rfl, hk2⟩
          go_wp2_with fail
          go_at_call 14
          refine (Y2.out _).mono ?_
          rintro e w3 ⟨o2, q2, rfl, hk3⟩
          go_wp2_with fail
          (go_at_call 15; refine (D1.out _).mono ?_; rintro e w4 ⟨rfl, hk4⟩)
          have K4 := (((hk1.trans hk2).trans hk3).trans hk4)
          go_wp2_with fail
          (go_at_call 15; refine (D2.out _).mono ?_; rintro e w5 ⟨rfl, hk5⟩)
          obtain ⟨hc5, hf5⟩ := kept_cells hk5
          have hz5 : w4.heap.size < w5.heap.size := by have := hk5.size; simp at this; omega
          go_wp2
          go_ret
          exact ⟨rfl, (by repeat (first | with_reducible exact Kept.refl _ | with_reducible assumption | with_reducible refine Kept.drew ?_ | with_reducible refine Kept.drewN ?_ _ | with_reducible refine Kept.alloc ?_ _ | (with_reducible refine Kept.setCell ?_ (by first | exact Nat.le_refl _ | omega | (simp; done) | (simp; omega)) _) | (with_reducible refine Kept.trans ?_ (by with_reducible assumption))))⟩
        · go_enter Try.func4, Try.ntmps4
          go_wp2_with fail
          (go_at_call 11; (with_reducible refine (KP.out _).mono ?_); rintro e w1 ⟨rfl, rfl⟩)
          go_wp2_with fail
          (go_at_call 8; (with_reducible refine (Cyc_awake _).mono ?_); rintro e w1 ⟨rfl, hk1⟩)
          go_wp2_with fail
          (go_at_call 13; (with_reducible refine (KI.out _).mono ?_); rintro e w1 ⟨rfl, rfl⟩)
          go_wp2_with fail
          (go_at_call 8; refine (Cyc_awake _).mono ?_; rintro e w2 ⟨rfl, hk2⟩)
          go_wp2
          go_ret
          exact ⟨rfl, (by repeat (first | with_reducible exact Kept.refl _ | with_reducible assumption | with_reducible refine Kept.drew ?_ | with_reducible refine Kept.drewN ?_ _ | with_reducible refine Kept.alloc ?_ _ | (with_reducible refine Kept.setCell ?_ (by first | exact Nat.le_refl _ | omega | (simp; done) | (simp; omega)) _) | (with_reducible refine Kept.trans ?_ (by with_reducible assumption))))⟩
      · have KI := Lib.hid (fun w => InG_no y w (.inr (by omega)))
        go_enter Try.func4, Try.ntmps4
        go_wp2_with fail
        (go_at_call 11; (with_reducible refine (KP.out _).mono ?_); rintro e w1 ⟨rfl, rfl⟩)
        go_wp2_with fail
        (go_at_call 8; (with_reducible refine (Cyc_awake _).mono ?_); rintro e w1 ⟨rfl, hk1⟩)
        go_wp2_with fail
        (go_at_call 13; (with_reducible refine (KI.out _).mono ?_); rintro e w1 ⟨rfl, rfl⟩)
        go_wp2_with fail
        (go_at_call 8; refine (Cyc_awake _).mono ?_; rintro e w2 ⟨rfl, hk2⟩)
        go_wp2
        go_ret
        exact ⟨rfl, (by repeat (first | with_reducible exact Kept.refl _ | with_reducible assumption | with_reducible refine Kept.drew ?_ | with_reducible refine Kept.drewN ?_ _ | with_reducible refine Kept.alloc ?_ _ | (with_reducible refine Kept.setCell ?_ (by first | exact Nat.le_refl _ | omega | (simp; done) | (simp; omega)) _) | (with_reducible refine Kept.trans ?_ (by with_reducible assumption))))⟩
    · have KI := Lib.hid (fun w => InG_no y w (.inl (by omega)))
      go_enter Try.func4, Try.ntmps4
      go_wp2_with fail
      (go_at_call 11; (with_reducible refine (KP.out _).mono ?_); rintro e w1 ⟨rfl, rfl⟩)
      go_wp2_with fail
      (go_at_call 8; (with_reducible refine (Cyc_awake _).mono ?_); rintro e w1 ⟨rfl, hk1⟩)
      go_wp2_with fail
      (go_at_call 13; (with_reducible refine (KI.out _).mono ?_); rintro e w1 ⟨rfl, rfl⟩)
      go_wp2_with fail
      (go_at_call 8; refine (Cyc_awake _).mono ?_; rintro e w2 ⟨rfl, hk2⟩)
      go_wp2
      go_ret
      exact ⟨rfl, (by repeat (first | with_reducible exact Kept.refl _ | with_reducible assumption | with_reducible refine Kept.drew ?_ | with_reducible refine Kept.drewN ?_ _ | with_reducible refine Kept.alloc ?_ _ | (with_reducible refine Kept.setCell ?_ (by first | exact Nat.le_refl _ | omega | (simp; done) | (simp; omega)) _) | (with_reducible refine Kept.trans ?_ (by with_reducible assumption))))⟩

set_option maxRecDepth 100000 in
theorem CyclePeriods_lifted (os : Os) (started : os.Started) (H : Type) (enc : TypeId × Value → H) :
    ReturnsInHanded {} Try.checked os 4 .any (Rows.cyclePeriodsSpec.pre6 enc Try.prog Try.f4 Rows.cyclePeriodsRow.domain false) (Rows.cyclePeriodsSpec.post enc Try.prog Try.f4 false true false false) := by
  refine returnsInHanded_of_change (C := Try.checked) own_knob started (by kernel_rfl) Try.func4
    (ChangeSpec.witness6 (enc := enc) (C := Try.checked) false ⟨#[], #[.int .u8 0, .int .i64 0, .int .i64 0, .int .i64 0], []⟩ 8 (by kernel_rfl) (by kernel_rfl) (by kernel_rfl) (by kernel_rfl)) ?_
  intro W base args ds gs before hval0 hW hcnd _
  have hval : ∀ (j : Nat) t v, Try.f4.params[j]? = some t → args[j]? = some v → Value.okWide Try.prog W .any base t v := hval0
  clear hval0
  have hW' := hW
  obtain ⟨p, q, hA0, hV, rfl, hfz, hnd⟩ := hW
  have hA : DataW.TrodAll enc Try.prog W 0 (fun _ => true) true Try.f4.params.toList args.toList ds p := hA0
  rw [Try.params4] at hA hval
  obtain ⟨v0, vs0, d0, ds0, p0, q0, hargs, rfl, rfl, h0, r0⟩ := trodAll_cons hA
  obtain ⟨v1, vs1, d1, ds1, p1, q1, rfl, rfl, rfl, h1, r1⟩ := trodAll_cons r0
  obtain ⟨v2, vs2, d2, ds2, p2, q2, rfl, rfl, rfl, h2, r2⟩ := trodAll_cons r1
  obtain ⟨v3, vs3, d3, ds3, p3, q3, rfl, rfl, rfl, h3, r3⟩ := trodAll_cons r2
  obtain ⟨rfl, rfl, rfl⟩ := trodAll_nil r3
  obtain rfl : args = #[v0, v1, v2, v3] := by cases args; simp_all
  obtain ⟨rfl, rfl⟩ := trodVars_none hV
  obtain ⟨a0, rfl, rfl, rfl, w0⟩ := open_int Try.underlying5 (hval 0 5 v0 rfl rfl) h0
  obtain ⟨a1, rfl, rfl, rfl, w1⟩ := open_int Try.underlying3 (hval 1 3 v1 rfl rfl) h1
  obtain ⟨a2, rfl, rfl, rfl, w2⟩ := open_int Try.underlying3 (hval 2 3 v2 rfl rfl) h2
  obtain ⟨a3, rfl, rfl, rfl, w3⟩ := open_int Try.underlying3 (hval 3 3 v3 rfl rfl) h3
  clear hA0
  simp only [List.append_nil] at hW'
  refine (CyclePeriods_walk a0 a1 a2 a3 (wf_bounds8 w0) (wf_bounds w1) (wf_bounds w2) (wf_bounds w3) W).mono fun e W' ⟨he, hg⟩ => ?_
  subst he
  exact ⟨_, rfl, post_of_kept (pa := []) (pv := []) hW' (fun _ _ _ => (trodAll_cons_mk (shut_bool Try.underlying4 _) trodAll_mk0)) (fun sp _ => (trodAll_cons_mk (shut_int Try.underlying5 w0) (trodAll_cons_mk (shut_int Try.underlying3 w1) (trodAll_cons_mk (shut_int Try.underlying3 w2) (trodAll_cons_mk (shut_int Try.underlying3 w3) trodAll_mk0))))) (fun _ _ => rfl) rfl
    hg (ok_one (by kernel_rfl) rfl (okWide_bool_mk Try.underlying4 _))⟩
theorem CyclePeriods_proved : Rows.CyclePeriodsSaid :=
  OpenClaim.holds_of_wide 4 Try.f4 rfl rfl rfl rfl rfl rfl rfl ⟨rfl, rfl, rfl, rfl, rfl⟩ rfl rfl rfl rfl rfl (by kernel_rfl) Try.func4 (by kernel_rfl)
    (of_decide_eq_true (by kernel_rfl)) (by unfold Func.isWrapper; first | (rw [if_pos (by decide +kernel)]; kernel_rfl) | (rw [if_neg (by decide +kernel)]; exact ⟨rfl, rfl⟩))
    (fun os started H enc _ => CyclePeriods_lifted os started H enc)
#print axioms CyclePeriods_proved
end Go.Proofs.Ytekgaihdfnhkpaa

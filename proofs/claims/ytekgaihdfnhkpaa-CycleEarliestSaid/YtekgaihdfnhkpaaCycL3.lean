/- CycleEarliest. -/
import Derived.Test.YtekgaihdfnhkpaaCycAw
import Derived.Test.YtekgaihdfnhkpaaRows
set_option linter.unusedSimpArgs false
set_option linter.unusedVariables false
set_option linter.unusedSectionVars false
namespace Go.Proofs.Ytekgaihdfnhkpaa
open Go.ChangeShapes Go.WideShapes Go.ChangeAt Go.RowKit
set_option maxHeartbeats 1000000
set_option maxRecDepth 20000

theorem Earliest_core (k f n t : Int) (hr : rgE k f f = 0) (hf : f ≤ 999999000) (hn : 0 ≤ n ∧ n ≤ 255) (ht : 0 ≤ t ∧ t ≤ 255) :
    ∃ y a b : Int, f ≤ y ∧ y ≤ f + n ∧ (-10 ≤ a ∧ a ≤ 100) ∧ (-10 ≤ b ∧ b ≤ 100) ∧ (a < b ∨ a = b ∧ y ≤ f + t % (n + 1)) ∧
      (∀ w, Calls Try.prog 17 #[.int .i64 k, .int .i64 f, .int .i64 (f + n)] w fun e w' => e = .returned (.tuple #[.int .i64 y, .int .i64 0]) ∧ Kept w w') ∧
      (∀ w, Calls Try.prog 18 #[.int .i64 k, .int .i64 y] w fun e w' => e = .returned (.int .i64 a) ∧ Kept w w') ∧
      (∀ w, Calls Try.prog 18 #[.int .i64 k, .int .i64 (f + t % (n + 1))] w fun e w' => e = .returned (.int .i64 b) ∧ Kept w w') := by
  obtain ⟨h1, _, _, _⟩ := rg_zero k f f hr
  have hfit : ∀ y, f ≤ y → y ≤ f + n → Fit k y := by intro y g1 g2; unfold Fit at *; omega
  have hrg : rgE k f (f + n) = 0 := by
    have h2 := hfit (f + n) (by omega) (by omega)
    unfold rgE
    rcases fl_cases k f with ⟨_, e⟩ | ⟨g, e⟩ | ⟨g, e⟩
    · rw [if_neg (by omega)]
      rcases fl_cases k (f + n) with ⟨_, e⟩ | ⟨g, e⟩ | ⟨g, e⟩
      · rw [if_neg (by omega), if_neg (by omega)]
      · unfold Off at g; unfold Fit at h2; omega
      · unfold Fit at h2; omega
    · unfold Off at g; unfold Fit at h1; omega
    · unfold Fit at h1; omega
  have e1 : (f + n - f).toNat + 1 = n.toNat + 1 := by rw [show f + n - f = n from by omega]
  have t1 := Int.emod_nonneg t (show n + 1 ≠ 0 by omega)
  have t2 := Int.emod_lt_of_pos t (show 0 < n + 1 by omega)
  have by1 := bst_year k f (n.toNat + 1) (by omega)
  have by2 := bst_at k f (n.toNat + 1) (by omega)
  have by3 := bst_min k f (n.toNat + 1) (t % (n + 1)).toNat (by omega)
  have e2 : f + ((t % (n + 1)).toNat : Int) = f + t % (n + 1) := by omega
  rw [e2] at by3
  have i1 := easI_idx k (bst k f (n.toNat + 1)).1
  have i2 := easI_idx k (f + t % (n + 1))
  refine ⟨(bst k f (n.toNat + 1)).1, easI k (bst k f (n.toNat + 1)).1 - 1, easI k (f + t % (n + 1)) - 1, by1.1, by omega, by omega, by omega, by omega, fun w => ?_, fun w => rIndex_ok k _ w (hfit _ by1.1 (by omega)), fun w => rIndex_ok k _ w (hfit _ (by omega) (by omega))⟩
  have := Earliest_ok k f (f + n) w hrg
  rwa [e1] at this
set_option maxHeartbeats 2000000 in
theorem CycleEarliest_walk (c f n t : Int) (bc : 0 ≤ c ∧ c ≤ 255) (bf : -9223372036854775808 ≤ f ∧ f ≤ 9223372036854775807) (bn : 0 ≤ n ∧ n ≤ 255) (bt : 0 ≤ t ∧ t ≤ 255) (w : World) :
    Calls Try.prog 5 #[.int .u8 c, .int .i64 f, .int .u8 n, .int .u8 t] w fun e w' => e = .returned (.bool true) ∧ Kept w w' := by
  obtain ⟨bc1, bc2⟩ := bc
  have hr0 := rg_bounds (1 + c % 2) f f
  have KF := Lib.hid (fun w => rFails_any (1 + c % 2) f f w bf bf)
  by_cases hr : rgE (1 + c % 2) f f = 0
  · by_cases g : f ≤ 999999000
    · obtain ⟨y, a, b, y1, y2, ha, hb, hab, E1, I1, I2⟩ := Earliest_core (1 + c % 2) f n t hr g bn bt
      have hfy := (fit_cal _ _ (rg_zero _ _ _ hr).1).2
      obtain ⟨bn1, bn2⟩ := bn
      obtain ⟨bt1, bt2⟩ := bt
      have t1 := Int.emod_nonneg t (show n + 1 ≠ 0 by omega)
      have t2 := Int.emod_lt_of_pos t (show 0 < n + 1 by omega)
      rw [hr] at KF
      have KE := Lib.hid E1
      have KI := Lib.hid I1
      have KJ := Lib.hid I2
      clear E1 I1 I2 hr hr0
      rcases hab with hab | ⟨hab, hyz⟩
      · go_enter Try.func5, Try.ntmps5
        go_wp2_with fail
        (go_at_call 8; (with_reducible refine (Cyc_awake _).mono ?_); rintro e w1 ⟨rfl, hk1⟩)
        go_wp2_with fail
        (go_at_call 16; (with_reducible refine (KF.out _).mono ?_); rintro e w1 ⟨rfl, rfl⟩)
        go_wp2_with fail
        (go_at_call 17; refine (KE.out _).mono ?_; rintro e w2 ⟨rfl, hk2⟩)
        go_wp2_with fail
        (go_at_call 18; refine (KI.out _).mono ?_; rintro e w3 ⟨rfl, hk3⟩)
        go_wp2_with fail
        (go_at_call 18; refine (KJ.out _).mono ?_; rintro e w4 ⟨rfl, hk4⟩)
        go_wp2
        go_ret
        exact ⟨rfl, (by repeat (first | with_reducible exact Kept.refl _ | with_reducible assumption | with_reducible refine Kept.drew ?_ | with_reducible refine Kept.drewN ?_ _ | with_reducible refine Kept.alloc ?_ _ | (with_reducible refine Kept.setCell ?_ (by first | exact Nat.le_refl _ | omega | (simp; done) | (simp; omega)) _) | (with_reducible refine Kept.trans ?_ (by with_reducible assumption))))⟩
      · subst hab
        go_enter Try.func5, Try.ntmps5
        go_wp2_with fail
        (go_at_call 8; (with_reducible refine (Cyc_awake _).mono ?_); rintro e w1 ⟨rfl, hk1⟩)
        go_wp2_with fail
        (go_at_call 16; (with_reducible refine (KF.out _).mono ?_); rintro e w1 ⟨rfl, rfl⟩)
        go_wp2_with fail
        (go_at_call 17; refine (KE.out _).mono ?_; rintro e w2 ⟨rfl, hk2⟩)
        go_wp2_with fail
        (go_at_call 18; refine (KI.out _).mono ?_; rintro e w3 ⟨rfl, hk3⟩)
        go_wp2_with fail
        (go_at_call 18; refine (KJ.out _).mono ?_; rintro e w4 ⟨rfl, hk4⟩)
        go_wp2
        go_ret
        exact ⟨rfl, (by repeat (first | with_reducible exact Kept.refl _ | with_reducible assumption | with_reducible refine Kept.drew ?_ | with_reducible refine Kept.drewN ?_ _ | with_reducible refine Kept.alloc ?_ _ | (with_reducible refine Kept.setCell ?_ (by first | exact Nat.le_refl _ | omega | (simp; done) | (simp; omega)) _) | (with_reducible refine Kept.trans ?_ (by with_reducible assumption))))⟩
    · rw [hr] at KF
      clear hr hr0
      go_enter Try.func5, Try.ntmps5
      go_wp2_with fail
      (go_at_call 8; (with_reducible refine (Cyc_awake _).mono ?_); rintro e w1 ⟨rfl, hk1⟩)
      go_wp2_with fail
      (go_at_call 16; (with_reducible refine (KF.out _).mono ?_); rintro e w1 ⟨rfl, rfl⟩)
      go_wp2_with fail
      (go_at_call 8; refine (Cyc_awake _).mono ?_; rintro e w2 ⟨rfl, hk2⟩)
      go_wp2
      go_ret
      exact ⟨rfl, (by repeat (first | with_reducible exact Kept.refl _ | with_reducible assumption | with_reducible refine Kept.drew ?_ | with_reducible refine Kept.drewN ?_ _ | with_reducible refine Kept.alloc ?_ _ | (with_reducible refine Kept.setCell ?_ (by first | exact Nat.le_refl _ | omega | (simp; done) | (simp; omega)) _) | (with_reducible refine Kept.trans ?_ (by with_reducible assumption))))⟩
  · generalize rgE (1 + c % 2) f f = x at *
    go_enter Try.func5, Try.ntmps5
    go_wp2_with fail
    (go_at_call 8; (with_reducible refine (Cyc_awake _).mono ?_); rintro e w1 ⟨rfl, hk1⟩)
    go_wp2_with fail
    (go_at_call 16; (with_reducible refine (KF.out _).mono ?_); rintro e w1 ⟨rfl, rfl⟩)
    go_wp2_with fail
    (go_at_call 8; refine (Cyc_awake _).mono ?_; rintro e w2 ⟨rfl, hk2⟩)
    go_wp2
    go_ret
    exact ⟨rfl, (by repeat (first | with_reducible exact Kept.refl _ | with_reducible assumption | with_reducible refine Kept.drew ?_ | with_reducible refine Kept.drewN ?_ _ | with_reducible refine Kept.alloc ?_ _ | (with_reducible refine Kept.setCell ?_ (by first | exact Nat.le_refl _ | omega | (simp; done) | (simp; omega)) _) | (with_reducible refine Kept.trans ?_ (by with_reducible assumption))))⟩

set_option maxRecDepth 100000 in
theorem CycleEarliest_lifted (os : Os) (started : os.Started) (H : Type) (enc : TypeId × Value → H) :
    ReturnsInHanded {} Try.checked os 5 .any (Rows.cycleEarliestSpec.pre6 enc Try.prog Try.f5 Rows.cycleEarliestRow.domain false) (Rows.cycleEarliestSpec.post enc Try.prog Try.f5 false true false false) := by
  refine returnsInHanded_of_change (C := Try.checked) own_knob started (by kernel_rfl) Try.func5
    (ChangeSpec.witness6 (enc := enc) (C := Try.checked) false ⟨#[], #[.int .u8 0, .int .i64 0, .int .u8 0, .int .u8 0], []⟩ 8 (by kernel_rfl) (by kernel_rfl) (by kernel_rfl) (by kernel_rfl)) ?_
  intro W base args ds gs before hval0 hW hcnd _
  have hval : ∀ (j : Nat) t v, Try.f5.params[j]? = some t → args[j]? = some v → Value.okWide Try.prog W .any base t v := hval0
  clear hval0
  have hW' := hW
  obtain ⟨p, q, hA0, hV, rfl, hfz, hnd⟩ := hW
  have hA : DataW.TrodAll enc Try.prog W 0 (fun _ => true) true Try.f5.params.toList args.toList ds p := hA0
  rw [Try.params5] at hA hval
  obtain ⟨v0, vs0, d0, ds0, p0, q0, hargs, rfl, rfl, h0, r0⟩ := trodAll_cons hA
  obtain ⟨v1, vs1, d1, ds1, p1, q1, rfl, rfl, rfl, h1, r1⟩ := trodAll_cons r0
  obtain ⟨v2, vs2, d2, ds2, p2, q2, rfl, rfl, rfl, h2, r2⟩ := trodAll_cons r1
  obtain ⟨v3, vs3, d3, ds3, p3, q3, rfl, rfl, rfl, h3, r3⟩ := trodAll_cons r2
  obtain ⟨rfl, rfl, rfl⟩ := trodAll_nil r3
  obtain rfl : args = #[v0, v1, v2, v3] := by cases args; simp_all
  obtain ⟨rfl, rfl⟩ := trodVars_none hV
  obtain ⟨a0, rfl, rfl, rfl, w0⟩ := open_int Try.underlying5 (hval 0 5 v0 rfl rfl) h0
  obtain ⟨a1, rfl, rfl, rfl, w1⟩ := open_int Try.underlying3 (hval 1 3 v1 rfl rfl) h1
  obtain ⟨a2, rfl, rfl, rfl, w2⟩ := open_int Try.underlying5 (hval 2 5 v2 rfl rfl) h2
  obtain ⟨a3, rfl, rfl, rfl, w3⟩ := open_int Try.underlying5 (hval 3 5 v3 rfl rfl) h3
  clear hA0
  simp only [List.append_nil] at hW'
  refine (CycleEarliest_walk a0 a1 a2 a3 (wf_bounds8 w0) (wf_bounds w1) (wf_bounds8 w2) (wf_bounds8 w3) W).mono fun e W' ⟨he, hg⟩ => ?_
  subst he
  exact ⟨_, rfl, post_of_kept (pa := []) (pv := []) hW' (fun _ _ _ => (trodAll_cons_mk (shut_bool Try.underlying4 _) trodAll_mk0)) (fun sp _ => (trodAll_cons_mk (shut_int Try.underlying5 w0) (trodAll_cons_mk (shut_int Try.underlying3 w1) (trodAll_cons_mk (shut_int Try.underlying5 w2) (trodAll_cons_mk (shut_int Try.underlying5 w3) trodAll_mk0))))) (fun _ _ => rfl) rfl
    hg (ok_one (by kernel_rfl) rfl (okWide_bool_mk Try.underlying4 _))⟩
theorem CycleEarliest_proved : Rows.CycleEarliestSaid :=
  OpenClaim.holds_of_wide 5 Try.f5 rfl rfl rfl rfl rfl rfl rfl ⟨rfl, rfl, rfl, rfl, rfl⟩ rfl rfl rfl rfl rfl (by kernel_rfl) Try.func5 (by kernel_rfl)
    (of_decide_eq_true (by kernel_rfl)) (by unfold Func.isWrapper; first | (rw [if_pos (by decide +kernel)]; kernel_rfl) | (rw [if_neg (by decide +kernel)]; exact ⟨rfl, rfl⟩))
    (fun os started H enc _ => CycleEarliest_lifted os started H enc)
#print axioms CycleEarliest_proved
end Go.Proofs.Ytekgaihdfnhkpaa

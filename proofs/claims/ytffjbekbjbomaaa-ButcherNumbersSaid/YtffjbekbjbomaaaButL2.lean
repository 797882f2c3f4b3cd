/- 'Rows.ButcherNumbersSaid': for every calendar and year, the number of a year is from 114 to 148 and stands for the date. No condition. -/
import Derived.Test.YtffjbekbjbomaaaButAw
set_option linter.unusedSimpArgs false
set_option linter.unusedVariables false
set_option linter.unusedSectionVars false
namespace Go.Proofs.Ytffjbekbjbomaaa
open Go.ChangeShapes Go.WideShapes Go.ChangeAt Go.RowKit
set_option maxHeartbeats 400000

theorem bJ_range (y : Int) : 114 ≤ bJ y ∧ bJ y ≤ 148 := by
  have h : ∀ a : Fin 19, (19 * (a.val : Int) + 15) % 30 ≤ 28 := by decide
  have h1 := h ⟨(y % 19).toNat, by omega⟩
  have h2 : (((y % 19).toNat : Nat) : Int) = y % 19 := by omega
  rw [h2] at h1
  unfold bJ; omega
theorem bG_range (y : Int) : 114 ≤ bG y ∧ bG y ≤ 148 := by
  have := bH_bounds y
  have := bL_bounds y
  unfold bG; omega
theorem bN_range (k y : Int) : 114 ≤ bN k y ∧ bN k y ≤ 148 := by
  have := bJ_range y
  have := bG_range y
  unfold bN; split <;> omega

theorem ButcherNumbers_walk (c y : Int) (bc : 0 ≤ c ∧ c ≤ 255) (by0 : -9223372036854775808 ≤ y ∧ y ≤ 9223372036854775807) (w : World) :
    Calls Try.prog 4 #[.int .u8 c, .int .i64 y] w fun e w' => e = .returned (.bool true) ∧ Kept w w' := by
  obtain ⟨bc1, bc2⟩ := bc
  obtain ⟨by1, by2⟩ := by0
  rcases three_ways (1 + c % 2) y with h | h | h
  · omega
  · go_enter Try.func4, Try.ntmps4
    go_wp2_with fail
    (go_at_call 8; refine (But_awake _).mono ?_; rintro e w1 ⟨rfl, hk1⟩)
    go_wp2_with fail
    (go_at_call 11; refine (Fails_off _ _ _ h).mono ?_; rintro e w1 ⟨rfl, rfl⟩)
    go_wp2_with fail
    (go_at_call 8; refine (But_awake _).mono ?_; rintro e w2 ⟨rfl, hk2⟩)
    go_wp2
    go_ret
    exact ⟨rfl, (by repeat (first | with_reducible exact Kept.refl _ | with_reducible assumption | with_reducible refine Kept.drew ?_ | with_reducible refine Kept.drewN ?_ _ | with_reducible refine Kept.alloc ?_ _ | (with_reducible refine Kept.setCell ?_ (by first | exact Nat.le_refl _ | omega | (simp; done) | (simp; omega)) _) | (with_reducible refine Kept.trans ?_ (by with_reducible assumption))))⟩
  · obtain ⟨hN1, hN2⟩ := bN_range (1 + c % 2) y
    by_cases h4 : bN (1 + c % 2) y < 124
    · go_enter Try.func4, Try.ntmps4
      go_wp2_with fail
      (go_at_call 8; refine (But_awake _).mono ?_; rintro e w1 ⟨rfl, hk1⟩)
      go_wp2_with fail
      (go_at_call 11; refine (Fails_ok _ _ _ h).mono ?_; rintro e w1 ⟨rfl, rfl⟩)
      go_wp2_with fail
      (go_at_call 9; refine (Number_ok _ _ _ h).mono ?_; rintro e w2 ⟨rfl, hk2⟩)
      go_wp2_with fail
      (go_at_call 10; refine (But_ok _ _ _ h).mono ?_; rintro e w3 ⟨rfl, hk3⟩)
      go_wp2
      go_ret
      exact ⟨rfl, (by repeat (first | with_reducible exact Kept.refl _ | with_reducible assumption | with_reducible refine Kept.drew ?_ | with_reducible refine Kept.drewN ?_ _ | with_reducible refine Kept.alloc ?_ _ | (with_reducible refine Kept.setCell ?_ (by first | exact Nat.le_refl _ | omega | (simp; done) | (simp; omega)) _) | (with_reducible refine Kept.trans ?_ (by with_reducible assumption))))⟩
    · go_enter Try.func4, Try.ntmps4
      go_wp2_with fail
      (go_at_call 8; refine (But_awake _).mono ?_; rintro e w1 ⟨rfl, hk1⟩)
      go_wp2_with fail
      (go_at_call 11; refine (Fails_ok _ _ _ h).mono ?_; rintro e w1 ⟨rfl, rfl⟩)
      go_wp2_with fail
      (go_at_call 9; refine (Number_ok _ _ _ h).mono ?_; rintro e w2 ⟨rfl, hk2⟩)
      go_wp2_with fail
      (go_at_call 10; refine (But_ok _ _ _ h).mono ?_; rintro e w3 ⟨rfl, hk3⟩)
      go_wp2
      go_ret
      exact ⟨rfl, (by repeat (first | with_reducible exact Kept.refl _ | with_reducible assumption | with_reducible refine Kept.drew ?_ | with_reducible refine Kept.drewN ?_ _ | with_reducible refine Kept.alloc ?_ _ | (with_reducible refine Kept.setCell ?_ (by first | exact Nat.le_refl _ | omega | (simp; done) | (simp; omega)) _) | (with_reducible refine Kept.trans ?_ (by with_reducible assumption))))⟩

set_option maxRecDepth 100000 in
theorem ButcherNumbers_lifted (os : Os) (started : os.Started) (H : Type) (enc : TypeId × Value → H) :
    ReturnsInHanded {} Try.checked os 4 .any (Rows.butcherNumbersSpec.pre6 enc Try.prog Try.f4 Rows.butcherNumbersRow.domain false) (Rows.butcherNumbersSpec.post enc Try.prog Try.f4 false true false false) := by
  refine returnsInHanded_of_change (C := Try.checked) own_knob started (by kernel_rfl) Try.func4
    (ChangeSpec.witness6 (enc := enc) (C := Try.checked) false ⟨#[], #[.int .u8 0, .int .i64 0], []⟩ 8 (by kernel_rfl) (by kernel_rfl) (by kernel_rfl) (by kernel_rfl)) ?_
  intro W base args ds gs before hval0 hW hcnd _
  have hval : ∀ (j : Nat) t v, Try.f4.params[j]? = some t → args[j]? = some v → Value.okWide Try.prog W .any base t v := hval0
  have hW' := hW
  obtain ⟨p, q, hA0, hV, rfl, hfz, hnd⟩ := hW
  have hA : DataW.TrodAll enc Try.prog W 0 (fun _ => true) true Try.f4.params.toList args.toList ds p := hA0
  rw [Try.params4] at hA hval
  obtain ⟨v0, vs0, d0, ds0, p0, q0, hargs, rfl, rfl, h0, r0⟩ := trodAll_cons hA
  obtain ⟨v1, vs1, d1, ds1, p1, q1, rfl, rfl, rfl, h1, r1⟩ := trodAll_cons r0
  obtain ⟨rfl, rfl, rfl⟩ := trodAll_nil r1
  obtain rfl : args = #[v0, v1] := by cases args; simp_all
  obtain ⟨rfl, rfl⟩ := trodVars_none hV
  obtain ⟨a0, rfl, rfl, rfl, w0⟩ := open_int Try.underlying5 (hval 0 5 v0 rfl rfl) h0
  obtain ⟨a1, rfl, rfl, rfl, w1⟩ := open_int Try.underlying3 (hval 1 3 v1 rfl rfl) h1
  clear hA0 hval0
  simp only [List.append_nil] at hW'
  refine (ButcherNumbers_walk a0 a1 (wf_bounds8 w0) (wf_bounds w1) W).mono fun e W' ⟨he, hg⟩ => ?_
  subst he
  exact ⟨_, rfl, post_of_kept (pa := []) (pv := []) hW' (fun _ _ _ => (trodAll_cons_mk (shut_bool Try.underlying4 _) trodAll_mk0)) (fun sp _ => (trodAll_cons_mk (shut_int Try.underlying5 w0) (trodAll_cons_mk (shut_int Try.underlying3 w1) trodAll_mk0))) (fun _ _ => rfl) rfl
    hg (ok_one (by kernel_rfl) rfl (okWide_bool_mk Try.underlying4 _))⟩
theorem ButcherNumbers_proved : Rows.ButcherNumbersSaid :=
  OpenClaim.holds_of_wide 4 Try.f4 rfl rfl rfl rfl rfl rfl rfl ⟨rfl, rfl, rfl, rfl, rfl⟩ rfl rfl rfl rfl rfl (by kernel_rfl) Try.func4 (by kernel_rfl)
    (of_decide_eq_true (by kernel_rfl)) (by unfold Func.isWrapper; first | (rw [if_pos (by decide +kernel)]; kernel_rfl) | (rw [if_neg (by decide +kernel)]; exact ⟨rfl, rfl⟩))
    (fun os started H enc _ => ButcherNumbers_lifted os started H enc)
#print axioms ButcherNumbers_proved
end Go.Proofs.Ytffjbekbjbomaaa

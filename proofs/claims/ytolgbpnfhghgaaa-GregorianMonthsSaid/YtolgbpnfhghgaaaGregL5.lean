/- 'Rows.GregorianMonthsSaid': for every year in range and every month, the first day of the next month follows the last day of the month, which has the number of the length of the month. No condition. -/
import Derived.Test.YtolgbpnfhghgaaaGregAw
set_option linter.unusedSimpArgs false
set_option linter.unusedVariables false
set_option linter.unusedSectionVars false
namespace Go.Proofs.Ytolgbpnfhghgaaa
open Go.ChangeShapes Go.WideShapes Go.ChangeAt Go.RowKit Go.Joins
set_option maxHeartbeats 1000000

theorem GregorianMonths_walk (y c : Int) (_by : -9223372036854775808 ≤ y ∧ y ≤ 9223372036854775807) (_bc : 0 ≤ c ∧ c ≤ 255) (w : World) :
    Calls Try.prog 7 #[.int .i64 y, .int .u8 c] w fun e w' => e = .returned (.bool true) ∧ Kept w w' := by
  obtain ⟨c1, c2⟩ := _bc
  by_cases h : 1 ≤ y ∧ y ≤ 1000000000
  · obtain ⟨h1, h2⟩ := h
    have mb := mlen_bounds (lp 2 y) (1 + c % 11) (by omega) (by omega)
    have mb' := mlen_bounds (lp 2 y) (1 + c % 11 + 1) (by omega) (by omega)
    have ha : OkD 2 y (1 + c % 11) 1 := by unfold OkD; omega
    have hb : OkD 2 y (1 + c % 11 + 1) 1 := by unfold OkD; omega
    have hv : OkD 2 y (1 + c % 11) (mlen (lp 2 y) (1 + c % 11)) := by unfold OkD; omega
    have hw : ¬ OkD 2 y (1 + c % 11) (mlen (lp 2 y) (1 + c % 11) + 1) := by unfold OkD; omega
    have hn := num_bounds 2 _ _ _ ha
    have hn' := num_bounds 2 _ _ _ hb
    rw [fst_one, fst_top, if_neg (by decide), if_neg (by decide)] at hn hn'
    have e : num 2 y (1 + c % 11 + 1) 1 = num 2 y (1 + c % 11) 1 + mlen (lp 2 y) (1 + c % 11) := by
      unfold num
      rw [cum_succ _ _ (by omega) (by omega)]
      omega
    have HT := fun w => ToDay_ok y (1 + c % 11 + 1) 1 w hb
    rw [e] at HT
    have KT := Lib.hid HT
    obtain ⟨hn1, hn2⟩ := hn
    obtain ⟨mb1, mb2⟩ := mb
    clear HT e hn' mb' hb
    go_enter Try.func7, Try.ntmps7
    go_wp2_with fail
    (go_at_call 9; refine (Greg_awake _).mono ?_; rintro e w1 ⟨rfl, hk1⟩)
    go_wp2_with fail
    (go_at_call 18; refine (In_yes _ _ h1 h2).mono ?_; rintro e w1 ⟨rfl, rfl⟩)
    go_wp2_with fail
    (go_at_call 10; refine (ToDay_ok _ _ _ _ ha).mono ?_; rintro e w2 ⟨rfl, hk2⟩)
    go_wp2_with fail
    (go_at_call 10; refine (KT.out _).mono ?_; rintro e w3 ⟨rfl, hk3⟩)
    go_wp2_with fail
    (go_at_call 19; refine (Length_any _ _ _).mono ?_; rintro e w1 ⟨rfl, rfl⟩)
    go_wp2_with fail
    (go_at_call 12; refine (Valid_yes _ _ _ _ hv).mono ?_; rintro e w4 ⟨rfl, hk4⟩)
    go_wp2_with fail
    (go_at_call 12; refine (Valid_no _ _ _ _ hw).mono ?_; rintro e w5 ⟨rfl, hk5⟩)
    go_wp2
    go_ret
    exact ⟨rfl, (by repeat (first | with_reducible exact Kept.refl _ | with_reducible assumption | with_reducible refine Kept.drew ?_ | with_reducible refine Kept.drewN ?_ _ | with_reducible refine Kept.alloc ?_ _ | (with_reducible refine Kept.setCell ?_ (by first | exact Nat.le_refl _ | omega | (simp; done) | (simp; omega)) _) | (with_reducible refine Kept.trans ?_ (by with_reducible assumption))))⟩
  · go_enter Try.func7, Try.ntmps7
    go_wp2_with fail
    (go_at_call 9; refine (Greg_awake _).mono ?_; rintro e w1 ⟨rfl, hk1⟩)
    go_wp2_with fail
    (go_at_call 18; refine (In_no _ _ (by omega)).mono ?_; rintro e w1 ⟨rfl, rfl⟩)
    go_wp2_with fail
    (go_at_call 9; refine (Greg_awake _).mono ?_; rintro e w2 ⟨rfl, hk2⟩)
    go_wp2
    go_ret
    exact ⟨rfl, (by repeat (first | with_reducible exact Kept.refl _ | with_reducible assumption | with_reducible refine Kept.drew ?_ | with_reducible refine Kept.drewN ?_ _ | with_reducible refine Kept.alloc ?_ _ | (with_reducible refine Kept.setCell ?_ (by first | exact Nat.le_refl _ | omega | (simp; done) | (simp; omega)) _) | (with_reducible refine Kept.trans ?_ (by with_reducible assumption))))⟩

set_option maxRecDepth 100000 in
theorem GregorianMonths_lifted (os : Os) (started : os.Started) (H : Type) (enc : TypeId × Value → H) :
    ReturnsInHanded {} Try.checked os 7 .any (Rows.gregorianMonthsSpec.pre6 enc Try.prog Try.f7 Rows.gregorianMonthsRow.domain false) (Rows.gregorianMonthsSpec.post enc Try.prog Try.f7 false true false false) := by
  refine returnsInHanded_of_change (C := Try.checked) own_knob started (by kernel_rfl) Try.func7
    (ChangeSpec.witness6 (enc := enc) (C := Try.checked) false ⟨#[], #[.int .i64 0, .int .u8 0], []⟩ 8 (by kernel_rfl) (by kernel_rfl) (by kernel_rfl) (by kernel_rfl)) ?_
  intro W base args ds gs before hval0 hW hcnd _
  have hval : ∀ (j : Nat) t v, Try.f7.params[j]? = some t → args[j]? = some v → Value.okWide Try.prog W .any base t v := hval0
  have hW' := hW
  obtain ⟨p, q, hA0, hV, rfl, hfz, hnd⟩ := hW
  have hA : DataW.TrodAll enc Try.prog W 0 (fun _ => true) true Try.f7.params.toList args.toList ds p := hA0
  rw [Try.params7] at hA hval
  obtain ⟨v0, vs0, d0, ds0, p0, q0, hargs, rfl, rfl, h0, r0⟩ := trodAll_cons hA
  obtain ⟨v1, vs1, d1, ds1, p1, q1, rfl, rfl, rfl, h1, r1⟩ := trodAll_cons r0
  obtain ⟨rfl, rfl, rfl⟩ := trodAll_nil r1
  obtain rfl : args = #[v0, v1] := by cases args; simp_all
  obtain ⟨rfl, rfl⟩ := trodVars_none hV
  obtain ⟨a0, rfl, rfl, rfl, w0⟩ := open_int Try.underlying3 (hval 0 3 v0 rfl rfl) h0
  obtain ⟨a1, rfl, rfl, rfl, w1⟩ := open_int Try.underlying5 (hval 1 5 v1 rfl rfl) h1
  clear hA0 hval0
  simp only [List.append_nil] at hW'
  refine (GregorianMonths_walk a0 a1 (wf_bounds w0) (wf_bounds8 w1) W).mono fun e W' ⟨he, hg⟩ => ?_
  subst he
  exact ⟨_, rfl, post_of_kept (pa := []) (pv := []) hW' (fun _ _ _ => (trodAll_cons_mk (shut_bool Try.underlying4 _) trodAll_mk0)) (fun sp _ => (trodAll_cons_mk (shut_int Try.underlying3 w0) (trodAll_cons_mk (shut_int Try.underlying5 w1) trodAll_mk0))) (fun _ _ => rfl) rfl
    hg (ok_one (by kernel_rfl) rfl (okWide_bool_mk Try.underlying4 _))⟩
theorem GregorianMonths_proved : Rows.GregorianMonthsSaid :=
  OpenClaim.holds_of_wide 7 Try.f7 rfl rfl rfl rfl rfl rfl rfl ⟨rfl, rfl, rfl, rfl, rfl⟩ rfl rfl rfl rfl rfl (by kernel_rfl) Try.func7 (by kernel_rfl)
    (of_decide_eq_true (by kernel_rfl)) (by unfold Func.isWrapper; first | (rw [if_pos (by decide +kernel)]; kernel_rfl) | (rw [if_neg (by decide +kernel)]; exact ⟨rfl, rfl⟩))
    (fun os started H enc _ => GregorianMonths_lifted os started H enc)
#print axioms GregorianMonths_proved
end Go.Proofs.Ytolgbpnfhghgaaa

/- LabelMatchesReference. -/
import Derived.Test.YtennmbcimbgleaaDoorLabP
import Derived.Test.YtennmbcimbgleaaDoorLaid08
set_option linter.unusedSimpArgs false
set_option linter.unusedVariables false
set_option linter.unusedSectionVars false
namespace Go.Proofs.YtennmbcimbgleaaDoor
open Go.ChangeShapes Go.WideShapes Go.ChangeAt Go.RowKit
set_option maxHeartbeats 1000000

theorem LabelMatchesReference_walk (m d l : Int) (_b1 : -9223372036854775808 ≤ m ∧ m ≤ 9223372036854775807) (_b2 : -9223372036854775808 ≤ d ∧ d ≤ 9223372036854775807) (_b3 : -9223372036854775808 ≤ l ∧ l ≤ 9223372036854775807) (w : World) (hT : LTab w) :
    Calls Tryd.prog 3 #[.int .i64 m, .int .i64 d, .int .i64 l] w fun e w' => e = .returned (.bool true) ∧ Kept w w' := by
  have KT := Lib.hid (fun w' (k : Kept w w') => hT.kept k)
  have KW := Lib.hid (Lab_awake w hT)
  clear hT
  by_cases h : Ex m d
  · go_enter Tryd.func3, Tryd.ntmps3
    go_wp2_with fail
    go_at_call 8
    refine (KW.out).mono ?_
    rintro e w1 ⟨rfl, k1⟩
    go_wp2_with fail
    go_at_call 9
    refine (Position_ok m d w1 (KT.out _ k1) h).mono ?_
    rintro e w' ⟨rfl, rfl⟩
    go_wp2_with fail
    go_at_call 10
    refine (rPosition_ok m d w1 h).mono ?_
    rintro e w2 ⟨rfl, q2⟩
    have k2 := k1.trans q2
    go_wp2_with fail
    go_at_call 12
    refine (On_any m d w2 (KT.out _ k2)).mono ?_
    rintro e w3 ⟨o3, c3, rfl, i3, q3⟩
    have k3 := k2.trans q3
    go_wp2_with fail
    go_at_call 13
    refine (rOn_any m d w3).mono ?_
    rintro e w4 ⟨o4, c4, rfl, i4, q4⟩
    have k4 := k3.trans q4
    go_wp2_with fail
    go_at_call 11
    refine (Numbers_of o3 o4 c3 c4 _ _ w4 (i3.kept q4) i4 (onA_len m d) (onA_len m d)).mono ?_
    rw [decide_eq_true rfl]
    rintro e w5 ⟨rfl, q5⟩
    have k5 := k4.trans q5
    go_wp2_with fail
    go_at_call 14
    refine (Bears_of m d l w5 (KT.out _ k5)).mono ?_
    rintro e w6 ⟨rfl, q6⟩
    have k6 := k5.trans q6
    have KR := Lib.hid (bears_range m d l)
    have KB := Lib.hid (rBears_of m d l w6)
    generalize bears m d l = r at *
    by_cases h1 : 1 ≤ l
    · by_cases h2 : l ≤ 31
      · have KB2 := KB
        go_wp2_with (go_at_call 15; refine (KB2.out).mono ?_; rintro e w1 ⟨rfl, hk1⟩)
        go_ret
        exact ⟨by simp, k6.trans hk1⟩
      · obtain rfl : r = false := by
          cases r with
          | false => rfl
          | true => exact absurd (KR.out rfl).2 h2
        go_wp2
        go_ret
        exact ⟨by simp, k6⟩
    · obtain rfl : r = false := by
        cases r with
        | false => rfl
        | true => exact absurd (KR.out rfl).1 h1
      go_wp2
      go_ret
      exact ⟨by simp, k6⟩
  · go_enter Tryd.func3, Tryd.ntmps3
    go_wp2_with fail
    go_at_call 8
    refine (KW.out).mono ?_
    rintro e w1 ⟨rfl, k1⟩
    go_wp2_with fail
    go_at_call 9
    refine (Position_no m d w1 (KT.out _ k1) h).mono ?_
    rintro e w' ⟨rfl, rfl⟩
    go_wp2_with fail
    go_at_call 10
    refine (rPosition_no m d w1 h).mono ?_
    rintro e w2 ⟨rfl, q2⟩
    have k2 := k1.trans q2
    go_wp2_with fail
    go_at_call 12
    refine (On_any m d w2 (KT.out _ k2)).mono ?_
    rintro e w3 ⟨o3, c3, rfl, i3, q3⟩
    have k3 := k2.trans q3
    go_wp2_with fail
    go_at_call 13
    refine (rOn_any m d w3).mono ?_
    rintro e w4 ⟨o4, c4, rfl, i4, q4⟩
    have k4 := k3.trans q4
    go_wp2_with fail
    go_at_call 11
    refine (Numbers_of o3 o4 c3 c4 _ _ w4 (i3.kept q4) i4 (onA_len m d) (onA_len m d)).mono ?_
    rw [decide_eq_true rfl]
    rintro e w5 ⟨rfl, q5⟩
    have k5 := k4.trans q5
    go_wp2_with fail
    go_at_call 14
    refine (Bears_of m d l w5 (KT.out _ k5)).mono ?_
    rintro e w6 ⟨rfl, q6⟩
    have k6 := k5.trans q6
    have KR := Lib.hid (bears_range m d l)
    have KB := Lib.hid (rBears_of m d l w6)
    generalize bears m d l = r at *
    by_cases h1 : 1 ≤ l
    · by_cases h2 : l ≤ 31
      · have KB2 := KB
        go_wp2_with (go_at_call 15; refine (KB2.out).mono ?_; rintro e w1 ⟨rfl, hk1⟩)
        go_ret
        exact ⟨by simp, k6.trans hk1⟩
      · obtain rfl : r = false := by
          cases r with
          | false => rfl
          | true => exact absurd (KR.out rfl).2 h2
        go_wp2
        go_ret
        exact ⟨by simp, k6⟩
    · obtain rfl : r = false := by
        cases r with
        | false => rfl
        | true => exact absurd (KR.out rfl).1 h1
      go_wp2
      go_ret
      exact ⟨by simp, k6⟩

set_option maxRecDepth 100000 in
theorem LabelMatchesReference_contract (H : Type) (enc : TypeId × Value → H) (W : World) (base : Nat) (args : Array Value) (ds gs : List (DataW H)) (before : List MemPlace)
    (hval : ∀ (j : Nat) t v, Tryd.f3.params[j]? = some t → args[j]? = some v → Value.okWide Tryd.prog W .any base t v)
    (hW : DataW.Whole enc Tryd.prog Tryd.f3.params.toList Rows.labelMatchesReferenceSpec.vars false W args.toList ds gs before) (hL : laidMetH Tryd.prog Rows.labelMatchesReferenceRow.laid W) :
    Calls Tryd.prog 3 args W fun e W' => ∃ v, e = .returned v ∧ Rows.labelMatchesReferenceSpec.post enc Tryd.prog Tryd.f3 false true false false W args v W' := by
  have hW' := hW
  obtain ⟨p, q, hA0, hV, rfl, hfz, hnd⟩ := hW
  have hA : DataW.TrodAll enc Tryd.prog W 0 (fun _ => true) true Tryd.f3.params.toList args.toList ds p := hA0
  rw [Tryd.params3] at hA hval
  obtain ⟨v0, vs0, d0, ds0, p0, q0, hargs, rfl, rfl, h0, r0⟩ := trodAll_cons hA
  obtain ⟨v1, vs1, d1, ds1, p1, q1, rfl, rfl, rfl, h1, r1⟩ := trodAll_cons r0
  obtain ⟨v2, vs2, d2, ds2, p2, q2, rfl, rfl, rfl, h2, r2⟩ := trodAll_cons r1
  obtain ⟨rfl, rfl, rfl⟩ := trodAll_nil r2
  obtain rfl : args = #[v0, v1, v2] := by cases args; simp_all
  obtain ⟨rfl, rfl⟩ := trodVars_none hV
  obtain ⟨a0, rfl, rfl, rfl, w0⟩ := open_int Tryd.underlying3 (hval 0 3 v0 rfl rfl) h0
  obtain ⟨a1, rfl, rfl, rfl, w1⟩ := open_int Tryd.underlying3 (hval 1 3 v1 rfl rfl) h1
  obtain ⟨a2, rfl, rfl, rfl, w2⟩ := open_int Tryd.underlying3 (hval 2 3 v2 rfl rfl) h2
  clear hA0
  simp only [List.append_nil] at hW'
  refine (LabelMatchesReference_walk a0 a1 a2 (wf_bounds w0) (wf_bounds w1) (wf_bounds w2) W (tab_of hL)).mono fun e W' ⟨he, hg⟩ => ?_
  subst he
  exact ⟨_, rfl, post_of_kept (pa := []) (pv := []) hW' (fun _ _ _ => (trodAll_cons_mk (shut_bool Tryd.underlying4 _) trodAll_mk0)) (fun sp _ => (trodAll_cons_mk (shut_int Tryd.underlying3 w0) (trodAll_cons_mk (shut_int Tryd.underlying3 w1) (trodAll_cons_mk (shut_int Tryd.underlying3 w2) trodAll_mk0)))) (fun _ _ => rfl) rfl
    hg (ok_one (by kernel_rfl) rfl (okWide_bool_mk Tryd.underlying4 _))⟩
theorem LabelMatchesReference_laid (os : Os) : laidMet Tryd.prog Rows.labelMatchesReferenceRow.laid ((laidWorld os).forCall (fun _ _ => 0) ⟨#[], #[.int .i64 0, .int .i64 0, .int .i64 0], []⟩).memory :=
  laidMet_of_run' 8 (by kernel_rfl) (by kernel_rfl)
theorem LabelMatchesReference_reads (os : Os) {H : Type} (enc : TypeId × Value → H) : ∃ places, DataW.whole enc Tryd.prog ((laidWorld os).forCall (fun _ _ => 0) ⟨#[], #[.int .i64 0, .int .i64 0, .int .i64 0], []⟩).memory Tryd.f3.params.toList Rows.labelMatchesReferenceSpec.vars false (#[.int .i64 0, .int .i64 0, .int .i64 0] : Array Value).toList 8 = some ([.lit (.int .i64 0), .lit (.int .i64 0), .lit (.int .i64 0)], [], places) :=
  ⟨[], by kernel_rfl⟩
set_option maxRecDepth 100000 in
theorem LabelMatchesReference_lifted (os : Os) (started : os.Started) (H : Type) (enc : TypeId × Value → H) (F : Stop.Interp) :
    ReturnsInHanded {} Tryd.checked os 3 .any ((OpenSpec.ofChange Rows.labelMatchesReferenceSpec).preRow enc Tryd.prog Tryd.f3 Rows.labelMatchesReferenceRow.domain false Rows.labelMatchesReferenceRow.laid) (((OpenSpec.ofChange Rows.labelMatchesReferenceSpec).at F).post enc Tryd.prog Tryd.f3 false true false false) := by
  obtain ⟨places, hx⟩ := LabelMatchesReference_reads os enc
  refine returnsInHanded_of_row (C := Tryd.checked) (s := OpenSpec.ofChange Rows.labelMatchesReferenceSpec) own_knob started (by kernel_rfl) Tryd.func3
    (witness_row_at (enc := enc) (C := Tryd.checked) false (laidWorld os) #[.int .i64 0, .int .i64 0, .int .i64 0] rfl (by kernel_rfl) (by kernel_rfl) (by kernel_rfl)
      (OpenSpec.preRow_of_cond 8 hx (by kernel_rfl) (fun k hk => by cases hk) (by kernel_rfl) (LabelMatchesReference_laid os))) ?_
  intro W base args ds gs before hval hW _ _ _ hL _ _
  exact LabelMatchesReference_contract H enc W base args ds gs before hval hW hL
theorem LabelMatchesReference_said : Rows.LabelMatchesReferenceSaid :=
  OpenClaim.holds_of_cond 3 Tryd.f3 rfl rfl rfl rfl rfl rfl rfl ⟨rfl, rfl, rfl, rfl, rfl⟩ rfl rfl rfl rfl rfl (by kernel_rfl) Tryd.func3 (by kernel_rfl)
    (of_decide_eq_true (by kernel_rfl)) (by unfold Func.isWrapper; first | (rw [if_pos (by decide +kernel)]; kernel_rfl) | (rw [if_neg (by decide +kernel)]; exact ⟨rfl, rfl⟩))
    (fun os started H enc _ F => by rw [OpenClaim.pre_eq_preRow]; exact LabelMatchesReference_lifted os started H enc F)
theorem LabelMatchesReference_plain (f : FuncId) (fn : Func) (hf : Tryd.pinned.checked.prog.funcNamed "computus/computuslaw08.LabelMatchesReference" = some f) (hfn : Tryd.pinned.checked.prog.funcs[f]? = some fn) :
    false = Tryd.pinned.checked.prog.looks [] ∧ ∀ (j : Nat) t, fn.params[j]? = some t → Tryd.pinned.checked.prog.wantsStandIn t = false := by
  obtain rfl : f = 3 := Option.some.inj ((show Tryd.prog.funcNamed "computus/computuslaw08.LabelMatchesReference" = some 3 by kernel_rfl).symm.trans hf) |>.symm
  obtain rfl : fn = Tryd.f3 := (Option.some.inj (Tryd.func3.symm.trans hfn)).symm
  refine ⟨by kernel_rfl, fun j t ht => ?_⟩
  rw [Tryd.params3] at ht
  have hm : t ∈ [3, 3, 3] := by simpa using Array.mem_of_getElem? ht
  have hall : ([3, 3, 3].all fun u => !Tryd.prog.wantsStandIn u) = true := by kernel_rfl
  exact (show Tryd.prog.wantsStandIn t = false by simpa using List.all_eq_true.1 hall t hm)
theorem LabelMatchesReference_proved : Rows.LabelMatchesReferenceCardSaid :=
  Claim7.holds_tied_plain_at .later [] _ _ _ _ LabelMatchesReference_said (fun _ h => by cases h) (by kernel_rfl) (fun _ h => by cases h) labelMatchesReference_row_tie rfl ⟨rfl, rfl⟩ (by kernel_rfl) rfl LabelMatchesReference_plain (by kernel_rfl)
#print axioms LabelMatchesReference_proved
end Go.Proofs.YtennmbcimbgleaaDoor

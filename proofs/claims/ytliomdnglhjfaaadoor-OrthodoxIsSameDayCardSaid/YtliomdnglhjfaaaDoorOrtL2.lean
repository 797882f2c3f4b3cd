/- OrthodoxIsSameDay. -/
import Derived.Test.YtliomdnglhjfaaaDoorOrtL
import Derived.Test.YtliomdnglhjfaaaDoorLaidG
import Derived.Test.YtliomdnglhjfaaaDoorHead
set_option linter.unusedSimpArgs false
set_option linter.unusedVariables false
set_option linter.unusedSectionVars false
namespace Go.Proofs.YtliomdnglhjfaaaDoor
open Go.ChangeShapes Go.WideShapes Go.ChangeAt Go.RowKit
set_option maxHeartbeats 1000000
set_option maxRecDepth 20000

theorem OrthodoxIsSameDay_walk (y : Int) (by0 : -9223372036854775808 ≤ y ∧ y ≤ 9223372036854775807) (w : World) (hT : RTab w) :
    Calls Tryd.prog 14 #[.int .i64 y] w fun e w' => e = .returned (.bool true) ∧ Kept w w' := by
  have KT := Lib.hid (fun w' (k : Kept w w') => hT.kept k)
  obtain ⟨x1, x2, x3, e, hr⟩ := ot_some y
  have he := ot_e _ _ _ _ _ hr
  have KD := Lib.hid (fun w hT => ODate_any y x1 x2 x3 e w hT hr)
  clear hT
  by_cases h0 : e = 0
  · subst h0
    obtain ⟨hf, ho, hn⟩ := ot_zero _ _ _ _ hr
    have e0 : flE 1 y = 0 := by
      rcases fl_cases 1 y with ⟨_, e⟩ | ⟨g, _⟩ | ⟨g, _⟩
      · exact e
      · unfold Fit at hf; unfold Off at g; omega
      · omega
    have KE := Lib.hid (fun w hT => EDay_any 1 y w hT sm_1)
    have hv : esV 1 y = esN 1 y := if_pos e0
    rw [hv, e0] at KE
    have KR : Hid (∀ w, Calls Tryd.prog 51 #[.agg #[.int .i64 x1, .int .i64 x2, .int .i64 x3]] w fun e w' => e = .returned (.tuple #[.int .i64 (esN 1 y), .int .i64 0]) ∧ Kept w w') := (show ∀ _, _ from fun w => by
      have := rToDay_ok x1 x2 x3 w ho
      rwa [hn] at this)
    have KW := Lib.hid (fun n w a b => rWOf_any n w a b)
    have hs := esN_sunday 1 y
    have hb := esN_bounds 1 y hf
    clear hr hf ho hn e0 hv
    generalize esN 1 y = n at *
    go_enter Tryd.func14, Tryd.ntmps14
    go_wp2_with fail
    (go_at_call 43; refine (Ort_awake _ (KT.out _ (by repeat (first | with_reducible exact Kept.refl _ | with_reducible assumption | with_reducible refine Kept.drew ?_ | with_reducible refine Kept.drewN ?_ _ | with_reducible refine Kept.alloc ?_ _ | (with_reducible refine Kept.setCell ?_ (by first | exact Nat.le_refl _ | omega | (simp; done) | (simp; omega)) _) | (with_reducible refine Kept.trans ?_ (by with_reducible assumption)))))).mono ?_; rintro e w1 ⟨rfl, hk1⟩)
    go_wp2_with fail
    (go_at_call 44; refine (KD.out _ (KT.out _ (by repeat (first | with_reducible exact Kept.refl _ | with_reducible assumption | with_reducible refine Kept.drew ?_ | with_reducible refine Kept.drewN ?_ _ | with_reducible refine Kept.alloc ?_ _ | (with_reducible refine Kept.setCell ?_ (by first | exact Nat.le_refl _ | omega | (simp; done) | (simp; omega)) _) | (with_reducible refine Kept.trans ?_ (by with_reducible assumption)))))).mono ?_; rintro e w2 ⟨rfl, hk2⟩)
    go_wp2_with fail
    (go_at_call 35; refine (KE.out _ (KT.out _ (by repeat (first | with_reducible exact Kept.refl _ | with_reducible assumption | with_reducible refine Kept.drew ?_ | with_reducible refine Kept.drewN ?_ _ | with_reducible refine Kept.alloc ?_ _ | (with_reducible refine Kept.setCell ?_ (by first | exact Nat.le_refl _ | omega | (simp; done) | (simp; omega)) _) | (with_reducible refine Kept.trans ?_ (by with_reducible assumption)))))).mono ?_; rintro e w3 ⟨rfl, hk3⟩)
    have hB3_3 := hk3
    obtain ⟨hc3_3, hf3_3⟩ := kept_cells hB3_3
    have hz3_0_3 : w2.heap.size < w3.heap.size := by have := hB3_3.size; simp at this; omega
    go_wp2_with fail
    (go_at_call 51; refine (KR.out _).mono ?_; rintro e w4 ⟨rfl, hk4⟩)
    have hB3_4 := Kept.trans hB3_3 hk4
    obtain ⟨hc3_4, hf3_4⟩ := kept_cells hB3_4
    have hz3_0_4 : w2.heap.size < w4.heap.size := by have := hB3_4.size; simp at this; omega
    go_wp2_with (go_at_call 40; (with_reducible refine (KW.out _ _ (by omega) (by omega)).mono ?_); rintro e v1 ⟨rfl, rfl⟩)
    go_ret
    exact ⟨rfl, (by repeat (first | with_reducible exact Kept.refl _ | with_reducible assumption | with_reducible refine Kept.drew ?_ | with_reducible refine Kept.drewN ?_ _ | with_reducible refine Kept.alloc ?_ _ | (with_reducible refine Kept.setCell ?_ (by first | exact Nat.le_refl _ | omega | (simp; done) | (simp; omega)) _) | (with_reducible refine Kept.trans ?_ (by with_reducible assumption))))⟩
  · obtain ⟨rfl, rfl, rfl⟩ := ot_err _ _ _ _ _ hr h0
    clear hr
    go_enter Tryd.func14, Tryd.ntmps14
    go_wp2_with fail
    (go_at_call 43; refine (Ort_awake _ (KT.out _ (by repeat (first | with_reducible exact Kept.refl _ | with_reducible assumption | with_reducible refine Kept.drew ?_ | with_reducible refine Kept.drewN ?_ _ | with_reducible refine Kept.alloc ?_ _ | (with_reducible refine Kept.setCell ?_ (by first | exact Nat.le_refl _ | omega | (simp; done) | (simp; omega)) _) | (with_reducible refine Kept.trans ?_ (by with_reducible assumption)))))).mono ?_; rintro e w1 ⟨rfl, hk1⟩)
    go_wp2_with fail
    (go_at_call 44; refine (KD.out _ (KT.out _ (by repeat (first | with_reducible exact Kept.refl _ | with_reducible assumption | with_reducible refine Kept.drew ?_ | with_reducible refine Kept.drewN ?_ _ | with_reducible refine Kept.alloc ?_ _ | (with_reducible refine Kept.setCell ?_ (by first | exact Nat.le_refl _ | omega | (simp; done) | (simp; omega)) _) | (with_reducible refine Kept.trans ?_ (by with_reducible assumption)))))).mono ?_; rintro e w2 ⟨rfl, hk2⟩)
    go_wp2
    go_ret
    exact ⟨rfl, (by repeat (first | with_reducible exact Kept.refl _ | with_reducible assumption | with_reducible refine Kept.drew ?_ | with_reducible refine Kept.drewN ?_ _ | with_reducible refine Kept.alloc ?_ _ | (with_reducible refine Kept.setCell ?_ (by first | exact Nat.le_refl _ | omega | (simp; done) | (simp; omega)) _) | (with_reducible refine Kept.trans ?_ (by with_reducible assumption))))⟩

set_option maxRecDepth 100000 in
theorem OrthodoxIsSameDay_contract (H : Type) (enc : TypeId × Value → H) (W : World) (base : Nat) (args : Array Value) (ds gs : List (DataW H)) (before : List MemPlace)
    (hval : ∀ (j : Nat) t v, Tryd.f14.params[j]? = some t → args[j]? = some v → Value.okWide Tryd.prog W .any base t v)
    (hW : DataW.Whole enc Tryd.prog Tryd.f14.params.toList Rows.orthodoxIsSameDaySpec.vars false W args.toList ds gs before) (hL : laidMetH Tryd.prog Rows.orthodoxIsSameDayRow.laid W) :
    Calls Tryd.prog 14 args W fun e W' => ∃ v, e = .returned v ∧ Rows.orthodoxIsSameDaySpec.post enc Tryd.prog Tryd.f14 false true false false W args v W' := by
  have hW' := hW
  obtain ⟨p, q, hA0, hV, rfl, hfz, hnd⟩ := hW
  have hA : DataW.TrodAll enc Tryd.prog W 0 (fun _ => true) true Tryd.f14.params.toList args.toList ds p := hA0
  rw [Tryd.params14] at hA hval
  obtain ⟨v0, vs0, d0, ds0, p0, q0, hargs, rfl, rfl, h0, r0⟩ := trodAll_cons hA
  obtain ⟨rfl, rfl, rfl⟩ := trodAll_nil r0
  obtain rfl : args = #[v0] := by cases args; simp_all
  obtain ⟨rfl, rfl⟩ := trodVars_none hV
  obtain ⟨a0, rfl, rfl, rfl, w0⟩ := open_int Tryd.underlying3 (hval 0 3 v0 rfl rfl) h0
  clear hA0
  simp only [List.append_nil] at hW'
  refine (OrthodoxIsSameDay_walk a0 (wf_bounds w0) W (tab_of hL)).mono fun e W' ⟨he, hg⟩ => ?_
  subst he
  exact ⟨_, rfl, post_of_kept (pa := []) (pv := []) hW' (fun _ _ _ => (trodAll_cons_mk (shut_bool Tryd.underlying4 _) trodAll_mk0)) (fun sp _ => (trodAll_cons_mk (shut_int Tryd.underlying3 w0) trodAll_mk0)) (fun _ _ => rfl) rfl
    hg (ok_one (by kernel_rfl) rfl (okWide_bool_mk Tryd.underlying4 _))⟩
theorem OrthodoxIsSameDay_laid (os : Os) : laidMet Tryd.prog Rows.orthodoxIsSameDayRow.laid ((laidWorld os).forCall (fun _ _ => 0) ⟨#[], #[.int .i64 0], []⟩).memory :=
  laidMet_of_run' 8 (by kernel_rfl) (by kernel_rfl)
theorem OrthodoxIsSameDay_reads (os : Os) {H : Type} (enc : TypeId × Value → H) : ∃ places, DataW.whole enc Tryd.prog ((laidWorld os).forCall (fun _ _ => 0) ⟨#[], #[.int .i64 0], []⟩).memory Tryd.f14.params.toList Rows.orthodoxIsSameDaySpec.vars false (#[.int .i64 0] : Array Value).toList 8 = some ([.lit (.int .i64 0)], [], places) :=
  ⟨[], by kernel_rfl⟩
set_option maxRecDepth 100000 in
theorem OrthodoxIsSameDay_lifted (os : Os) (started : os.Started) (H : Type) (enc : TypeId × Value → H) (F : Stop.Interp) :
    ReturnsInHanded {} Tryd.checked os 14 .any ((OpenSpec.ofChange Rows.orthodoxIsSameDaySpec).preRow enc Tryd.prog Tryd.f14 Rows.orthodoxIsSameDayRow.domain false Rows.orthodoxIsSameDayRow.laid) (((OpenSpec.ofChange Rows.orthodoxIsSameDaySpec).at F).post enc Tryd.prog Tryd.f14 false true false false) := by
  obtain ⟨places, hx⟩ := OrthodoxIsSameDay_reads os enc
  refine returnsInHanded_of_row (C := Tryd.checked) (s := OpenSpec.ofChange Rows.orthodoxIsSameDaySpec) own_knob started (by kernel_rfl) Tryd.func14
    (witness_row_at (enc := enc) (C := Tryd.checked) false (laidWorld os) #[.int .i64 0] rfl (by kernel_rfl) (by kernel_rfl) (by kernel_rfl)
      (OpenSpec.preRow_of_cond 8 hx (by kernel_rfl) (fun k hk => by cases hk) (by kernel_rfl) (OrthodoxIsSameDay_laid os))) ?_
  intro W base args ds gs before hval hW _ _ _ hL _ _
  exact OrthodoxIsSameDay_contract H enc W base args ds gs before hval hW hL
theorem OrthodoxIsSameDay_closed : joinedFacts Tryd.pinned.checked.prog 14 Tryd.f14 (OpenSpec.ofChange Rows.orthodoxIsSameDaySpec).bare Rows.orthodoxIsSameDayRow = true := by
  unfold joinedFacts
  simp only [Bool.and_eq_true]
  repeat' apply And.intro
  all_goals (first | with_reducible exact head_enter | (rw [head_make]; rfl) | (rw [head_final]; rfl) | (as_aux_lemma => kernel_rfl))
theorem OrthodoxIsSameDay_said : Rows.OrthodoxIsSameDaySaid :=
  OpenClaim.holds_of_cond 14 Tryd.f14 rfl rfl rfl rfl rfl rfl rfl ⟨rfl, rfl, rfl, rfl, rfl⟩ rfl rfl rfl rfl rfl (by kernel_rfl) Tryd.func14 OrthodoxIsSameDay_closed
    (of_decide_eq_true (by kernel_rfl)) (by unfold Func.isWrapper; first | (rw [if_pos (by decide +kernel)]; kernel_rfl) | (rw [if_neg (by decide +kernel)]; exact ⟨rfl, rfl⟩))
    (fun os started H enc _ F => by rw [OpenClaim.pre_eq_preRow]; exact OrthodoxIsSameDay_lifted os started H enc F)
theorem OrthodoxIsSameDay_plain (f : FuncId) (fn : Func) (hf : Tryd.pinned.checked.prog.funcNamed "computus/computuslaw13.OrthodoxIsSameDay" = some f) (hfn : Tryd.pinned.checked.prog.funcs[f]? = some fn) :
    false = Tryd.pinned.checked.prog.looks [] ∧ ∀ (j : Nat) t, fn.params[j]? = some t → Tryd.pinned.checked.prog.wantsStandIn t = false := by
  obtain rfl : f = 14 := Option.some.inj ((show Tryd.prog.funcNamed "computus/computuslaw13.OrthodoxIsSameDay" = some 14 by kernel_rfl).symm.trans hf) |>.symm
  obtain rfl : fn = Tryd.f14 := (Option.some.inj (Tryd.func14.symm.trans hfn)).symm
  refine ⟨by kernel_rfl, fun j t ht => ?_⟩
  rw [Tryd.params14] at ht
  have hm : t ∈ [3] := by simpa using Array.mem_of_getElem? ht
  have hall : ([3].all fun u => !Tryd.prog.wantsStandIn u) = true := by kernel_rfl
  exact (show Tryd.prog.wantsStandIn t = false by simpa using List.all_eq_true.1 hall t hm)
theorem OrthodoxIsSameDay_proved : Rows.OrthodoxIsSameDayCardSaid :=
  Claim7.holds_tied_plain_at .later [] _ _ _ _ OrthodoxIsSameDay_said (fun _ h => by cases h) (by kernel_rfl) (fun _ h => by cases h) orthodoxIsSameDay_row_tie rfl ⟨rfl, rfl⟩ (mainIs_of io_list (by kernel_rfl)) rfl OrthodoxIsSameDay_plain (by kernel_rfl)
#print axioms OrthodoxIsSameDay_proved
end Go.Proofs.YtliomdnglhjfaaaDoor

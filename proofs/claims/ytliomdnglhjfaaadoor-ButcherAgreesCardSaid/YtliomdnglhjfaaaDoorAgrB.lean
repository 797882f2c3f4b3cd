/- ButcherAgrees: for every calendar and year the closed forms have the result of the tables and of the method of Gauss. -/
import Derived.Test.YtliomdnglhjfaaaDoorButAwS
import Derived.Test.YtliomdnglhjfaaaDoorEas2
import Derived.Test.YtliomdnglhjfaaaDoorRefP
import Derived.Test.YtliomdnglhjfaaaDoorMoonG
import Derived.Test.YtliomdnglhjfaaaDoorLaidG
import Derived.Test.YtliomdnglhjfaaaDoorHead
set_option linter.unusedSimpArgs false
set_option linter.unusedVariables false
set_option linter.unusedSectionVars false
namespace Go.Proofs.YtliomdnglhjfaaaDoor
open Go.ChangeShapes Go.WideShapes Go.ChangeAt Go.RowKit
set_option maxHeartbeats 1000000
set_option maxRecDepth 20000

theorem ButcherAgrees_walk (c y : Int) (bc : 0 ≤ c ∧ c ≤ 255) (by0 : -9223372036854775808 ≤ y ∧ y ≤ 9223372036854775807) (w : World) (hT : RTab w) :
    Calls Tryd.prog 18 #[.int .u8 c, .int .i64 y] w fun e w' => e = .returned (.bool true) ∧ Kept w w' := by
  obtain ⟨bc1, bc2⟩ := bc
  obtain ⟨by1, by2⟩ := by0
  have KT := Lib.hid (fun w' (k : Kept w w') => hT.kept k)
  clear hT
  rcases fl_cases (1 + c % 2) y with ⟨h, e0⟩ | ⟨h, e0⟩ | ⟨h, e0⟩
  · have KG := Lib.hid (fun w => Gau_ok (1 + c % 2) y w h)
    rw [(g_date _ y h).1, (g_date _ y h).2] at KG
    have KB := Lib.hid (fun w => But_ok (1 + c % 2) y w h)
    rw [(b_date _ y h).1, (b_date _ y h).2] at KB
    have KE := Lib.hid (fun w hT => EDate_any (1 + c % 2) y w hT (fit_sm _ _ h))
    obtain ⟨a1, a2, a3⟩ := ed_fit (1 + c % 2) y e0
    rw [a1, a2, a3, e0] at KE
    have KR := Lib.hid (fun w => rDate_ok (1 + c % 2) y w h)
    have KF := Lib.hid (fun w => Fails_ok (1 + c % 2) y w h)
    clear a1 a2 a3 e0 h
    generalize dmo (easI (1 + c % 2) y) = x2 at *
    generalize dda (easI (1 + c % 2) y) = x3 at *
    go_enter Tryd.func18, Tryd.ntmps18
    go_wp2_with fail
    (go_at_call 53; refine (But_awake _).mono ?_; rintro e w1 ⟨rfl, hk1⟩)
    go_wp2_with fail
    (go_at_call 21; refine (KF.out _).mono ?_; rintro e w1 ⟨rfl, rfl⟩)
    go_wp2_with fail
    (go_at_call 54; refine (KB.out _).mono ?_; rintro e w2 ⟨rfl, hk2⟩)
    go_wp2_with fail
    (go_at_call 36; refine (KE.out _ (KT.out _ (by repeat (first | with_reducible exact Kept.refl _ | with_reducible assumption | with_reducible refine Kept.drew ?_ | with_reducible refine Kept.drewN ?_ _ | with_reducible refine Kept.alloc ?_ _ | (with_reducible refine Kept.setCell ?_ (by first | exact Nat.le_refl _ | omega | (simp; done) | (simp; omega)) _) | (with_reducible refine Kept.trans ?_ (by with_reducible assumption)))))).mono ?_; rintro e w3 ⟨rfl, hk3⟩)
    have hB3_3 := hk3
    obtain ⟨hc3_3, hf3_3⟩ := kept_cells hB3_3
    have hz3_0_3 : w2.heap.size < w3.heap.size := by have := hB3_3.size; simp at this; omega
    go_wp2_with fail
    (go_at_call 42; refine (KG.out _).mono ?_; rintro e w4 ⟨rfl, hk4⟩)
    have hB3_4 := Kept.trans (Kept.alloc hB3_3 _) hk4
    have hB4_4 := hk4
    obtain ⟨hc3_4, hf3_4⟩ := kept_cells hB3_4
    have hz3_0_4 : w2.heap.size < w4.heap.size := by have := hB3_4.size; simp at this; omega
    obtain ⟨hc4_4, hf4_4⟩ := kept_cells hB4_4
    have hz4_0_4 : w3.heap.size < w4.heap.size := by have := hB4_4.size; simp at this; omega
    go_wp2_with fail
    go_region_held3 (fun w' => Kept (w4.alloc (.cells #[.int .i64 y, .int .i64 x2, .int .i64 x3] 23)) w' ∧ (∀ b o, b < (w4.alloc (.cells #[.int .i64 y, .int .i64 x2, .int .i64 x3] 23)).heap.size → w'.cell? ⟨b, o, none⟩ = (w4.alloc (.cells #[.int .i64 y, .int .i64 x2, .int .i64 x3] 23)).cell? ⟨b, o, none⟩)) (first | exact held_of (Kept.drew (Kept.refl _)) | exact held_of (Kept.trans (And.left (by assumption)) (by assumption))) (first | (go_at_call 38; (with_reducible refine (KR.out _).mono ?_); rintro e w1 ⟨rfl, hk1⟩))
    go_wp2
    go_ret
    exact ⟨rfl, (by repeat (first | with_reducible exact Kept.refl _ | with_reducible assumption | with_reducible refine Kept.drew ?_ | with_reducible refine Kept.drewN ?_ _ | with_reducible refine Kept.alloc ?_ _ | (with_reducible refine Kept.setCell ?_ (by first | exact Nat.le_refl _ | omega | (simp; done) | (simp; omega)) _) | (with_reducible refine Kept.trans ?_ (by with_reducible assumption))))⟩
  · have KF := Lib.hid (fun w => Fails_off (1 + c % 2) y w h)
    clear e0 h
    go_enter Tryd.func18, Tryd.ntmps18
    go_wp2_with fail
    (go_at_call 53; refine (But_awake _).mono ?_; rintro e w1 ⟨rfl, hk1⟩)
    go_wp2_with fail
    (go_at_call 21; refine (KF.out _).mono ?_; rintro e w1 ⟨rfl, rfl⟩)
    go_wp2_with fail
    (go_at_call 53; refine (But_awake _).mono ?_; rintro e w2 ⟨rfl, hk2⟩)
    go_wp2
    go_ret
    exact ⟨rfl, (by repeat (first | with_reducible exact Kept.refl _ | with_reducible assumption | with_reducible refine Kept.drew ?_ | with_reducible refine Kept.drewN ?_ _ | with_reducible refine Kept.alloc ?_ _ | (with_reducible refine Kept.setCell ?_ (by first | exact Nat.le_refl _ | omega | (simp; done) | (simp; omega)) _) | (with_reducible refine Kept.trans ?_ (by with_reducible assumption))))⟩
  · omega

set_option maxRecDepth 100000 in
theorem ButcherAgrees_contract (H : Type) (enc : TypeId × Value → H) (W : World) (base : Nat) (args : Array Value) (ds gs : List (DataW H)) (before : List MemPlace)
    (hval : ∀ (j : Nat) t v, Tryd.f18.params[j]? = some t → args[j]? = some v → Value.okWide Tryd.prog W .any base t v)
    (hW : DataW.Whole enc Tryd.prog Tryd.f18.params.toList Rows.butcherAgreesSpec.vars false W args.toList ds gs before) (hL : laidMetH Tryd.prog Rows.butcherAgreesRow.laid W) :
    Calls Tryd.prog 18 args W fun e W' => ∃ v, e = .returned v ∧ Rows.butcherAgreesSpec.post enc Tryd.prog Tryd.f18 false true false false W args v W' := by
  have hW' := hW
  obtain ⟨p, q, hA0, hV, rfl, hfz, hnd⟩ := hW
  have hA : DataW.TrodAll enc Tryd.prog W 0 (fun _ => true) true Tryd.f18.params.toList args.toList ds p := hA0
  rw [Tryd.params18] at hA hval
  obtain ⟨v0, vs0, d0, ds0, p0, q0, hargs, rfl, rfl, h0, r0⟩ := trodAll_cons hA
  obtain ⟨v1, vs1, d1, ds1, p1, q1, rfl, rfl, rfl, h1, r1⟩ := trodAll_cons r0
  obtain ⟨rfl, rfl, rfl⟩ := trodAll_nil r1
  obtain rfl : args = #[v0, v1] := by cases args; simp_all
  obtain ⟨rfl, rfl⟩ := trodVars_none hV
  obtain ⟨a0, rfl, rfl, rfl, w0⟩ := open_int Tryd.underlying5 (hval 0 5 v0 rfl rfl) h0
  obtain ⟨a1, rfl, rfl, rfl, w1⟩ := open_int Tryd.underlying3 (hval 1 3 v1 rfl rfl) h1
  clear hA0
  simp only [List.append_nil] at hW'
  refine (ButcherAgrees_walk a0 a1 (wf_bounds8 w0) (wf_bounds w1) W (tab_of hL)).mono fun e W' ⟨he, hg⟩ => ?_
  subst he
  exact ⟨_, rfl, post_of_kept (pa := []) (pv := []) hW' (fun _ _ _ => (trodAll_cons_mk (shut_bool Tryd.underlying4 _) trodAll_mk0)) (fun sp _ => (trodAll_cons_mk (shut_int Tryd.underlying5 w0) (trodAll_cons_mk (shut_int Tryd.underlying3 w1) trodAll_mk0))) (fun _ _ => rfl) rfl
    hg (ok_one (by kernel_rfl) rfl (okWide_bool_mk Tryd.underlying4 _))⟩
theorem ButcherAgrees_laid (os : Os) : laidMet Tryd.prog Rows.butcherAgreesRow.laid ((laidWorld os).forCall (fun _ _ => 0) ⟨#[], #[.int .u8 0, .int .i64 0], []⟩).memory :=
  laidMet_of_run' 8 (by kernel_rfl) (by kernel_rfl)
theorem ButcherAgrees_reads (os : Os) {H : Type} (enc : TypeId × Value → H) : ∃ places, DataW.whole enc Tryd.prog ((laidWorld os).forCall (fun _ _ => 0) ⟨#[], #[.int .u8 0, .int .i64 0], []⟩).memory Tryd.f18.params.toList Rows.butcherAgreesSpec.vars false (#[.int .u8 0, .int .i64 0] : Array Value).toList 8 = some ([.lit (.int .u8 0), .lit (.int .i64 0)], [], places) :=
  ⟨[], by kernel_rfl⟩
set_option maxRecDepth 100000 in
theorem ButcherAgrees_lifted (os : Os) (started : os.Started) (H : Type) (enc : TypeId × Value → H) (F : Stop.Interp) :
    ReturnsInHanded {} Tryd.checked os 18 .any ((OpenSpec.ofChange Rows.butcherAgreesSpec).preRow enc Tryd.prog Tryd.f18 Rows.butcherAgreesRow.domain false Rows.butcherAgreesRow.laid) (((OpenSpec.ofChange Rows.butcherAgreesSpec).at F).post enc Tryd.prog Tryd.f18 false true false false) := by
  obtain ⟨places, hx⟩ := ButcherAgrees_reads os enc
  refine returnsInHanded_of_row (C := Tryd.checked) (s := OpenSpec.ofChange Rows.butcherAgreesSpec) own_knob started (by kernel_rfl) Tryd.func18
    (witness_row_at (enc := enc) (C := Tryd.checked) false (laidWorld os) #[.int .u8 0, .int .i64 0] rfl (by kernel_rfl) (by kernel_rfl) (by kernel_rfl)
      (OpenSpec.preRow_of_cond 8 hx (by kernel_rfl) (fun k hk => by cases hk) (by kernel_rfl) (ButcherAgrees_laid os))) ?_
  intro W base args ds gs before hval hW _ _ _ hL _ _
  exact ButcherAgrees_contract H enc W base args ds gs before hval hW hL
theorem ButcherAgrees_closed : joinedFacts Tryd.pinned.checked.prog 18 Tryd.f18 (OpenSpec.ofChange Rows.butcherAgreesSpec).bare Rows.butcherAgreesRow = true := by
  unfold joinedFacts
  simp only [Bool.and_eq_true]
  repeat' apply And.intro
  all_goals (first | with_reducible exact head_enter | (rw [head_make]; rfl) | (rw [head_final]; rfl) | (as_aux_lemma => kernel_rfl))
theorem ButcherAgrees_said : Rows.ButcherAgreesSaid :=
  OpenClaim.holds_of_cond 18 Tryd.f18 rfl rfl rfl rfl rfl rfl rfl ⟨rfl, rfl, rfl, rfl, rfl⟩ rfl rfl rfl rfl rfl (by kernel_rfl) Tryd.func18 ButcherAgrees_closed
    (of_decide_eq_true (by kernel_rfl)) (by unfold Func.isWrapper; first | (rw [if_pos (by decide +kernel)]; kernel_rfl) | (rw [if_neg (by decide +kernel)]; exact ⟨rfl, rfl⟩))
    (fun os started H enc _ F => by rw [OpenClaim.pre_eq_preRow]; exact ButcherAgrees_lifted os started H enc F)
theorem ButcherAgrees_plain (f : FuncId) (fn : Func) (hf : Tryd.pinned.checked.prog.funcNamed "computus/computuslaw12.ButcherAgrees" = some f) (hfn : Tryd.pinned.checked.prog.funcs[f]? = some fn) :
    false = Tryd.pinned.checked.prog.looks [] ∧ ∀ (j : Nat) t, fn.params[j]? = some t → Tryd.pinned.checked.prog.wantsStandIn t = false := by
  obtain rfl : f = 18 := Option.some.inj ((show Tryd.prog.funcNamed "computus/computuslaw12.ButcherAgrees" = some 18 by kernel_rfl).symm.trans hf) |>.symm
  obtain rfl : fn = Tryd.f18 := (Option.some.inj (Tryd.func18.symm.trans hfn)).symm
  refine ⟨by kernel_rfl, fun j t ht => ?_⟩
  rw [Tryd.params18] at ht
  have hm : t ∈ [5, 3] := by simpa using Array.mem_of_getElem? ht
  have hall : ([5, 3].all fun u => !Tryd.prog.wantsStandIn u) = true := by kernel_rfl
  exact (show Tryd.prog.wantsStandIn t = false by simpa using List.all_eq_true.1 hall t hm)
theorem ButcherAgrees_proved : Rows.ButcherAgreesCardSaid :=
  Claim7.holds_tied_plain_at .later [] _ _ _ _ ButcherAgrees_said (fun _ h => by cases h) (by kernel_rfl) (fun _ h => by cases h) butcherAgrees_row_tie rfl ⟨rfl, rfl⟩ (by kernel_rfl) rfl ButcherAgrees_plain (by kernel_rfl)
#print axioms ButcherAgrees_proved
end Go.Proofs.YtliomdnglhjfaaaDoor

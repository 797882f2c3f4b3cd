/- EasterIsSunday. -/
import Derived.Test.YtliomdnglhjfaaaDoorEasAw
import Derived.Test.YtliomdnglhjfaaaDoorLaidG
import Derived.Test.YtliomdnglhjfaaaDoorHead
set_option linter.unusedSimpArgs false
set_option linter.unusedVariables false
set_option linter.unusedSectionVars false
namespace Go.Proofs.YtliomdnglhjfaaaDoor
open Go.ChangeShapes Go.WideShapes Go.ChangeAt Go.RowKit
set_option maxHeartbeats 1000000
set_option maxRecDepth 20000

theorem rDay_at (k y i n : Int) (w : World) (h : Fit k y) (hn : n = eqN k y + i) (h1 : -20 ≤ i) (h2 : i ≤ 40) :
    Calls Tryd.prog 26 #[.int .i64 k, .agg #[.int .i64 y, .int .i64 (dmo i), .int .i64 (dda i)]] w fun e w' => e = .returned (.tuple #[.int .i64 n, .int .i64 0]) ∧ Kept w w' := by
  obtain ⟨e1, e2⟩ := day_c k y i h h1 h2
  have := refToDay_all k y (dmo i) (dda i) w
  rwa [e1, e2, ← hn] at this
theorem EasterIsSunday_walk (c y : Int) (bc : 0 ≤ c ∧ c ≤ 255) (by0 : -9223372036854775808 ≤ y ∧ y ≤ 9223372036854775807) (w : World) (hT : RTab w) :
    Calls Tryd.prog 9 #[.int .u8 c, .int .i64 y] w fun e w' => e = .returned (.bool true) ∧ Kept w w' := by
  obtain ⟨bc1, bc2⟩ := bc
  obtain ⟨by1, by2⟩ := by0
  have KT := Lib.hid (fun w' (k : Kept w w') => hT.kept k)
  clear hT
  rcases fl_cases (1 + c % 2) y with ⟨h, e0⟩ | ⟨h, e0⟩ | ⟨h, e0⟩
  · have KD := Lib.hid (fun w hT => EDay_any (1 + c % 2) y w hT (fit_sm _ _ h))
    have KE := Lib.hid (fun w hT => EDate_any (1 + c % 2) y w hT (fit_sm _ _ h))
    obtain ⟨a1, a2, a3⟩ := ed_fit (1 + c % 2) y e0
    have hv : esV (1 + c % 2) y = esN (1 + c % 2) y := if_pos e0
    rw [a1, a2, a3, e0] at KE
    rw [hv, e0] at KD
    have hi := easI_bounds (1 + c % 2) y
    have hm := moonI_bounds (1 + c % 2) y
    have KM := Lib.hid (fun w => rFullMoon_ok (1 + c % 2) y w h)
    have K1 := Lib.hid (fun w => rDay_at (1 + c % 2) y (moonI (1 + c % 2) y) _ w h rfl (by omega) (by omega))
    have K2 := Lib.hid (fun w => rDay_at (1 + c % 2) y 1 _ w h rfl (by omega) (by omega))
    rw [show dmo 1 = 3 from rfl, show dda 1 = 22 from rfl] at K2
    have K3 := Lib.hid (fun w => rDay_at (1 + c % 2) y (easI (1 + c % 2) y) _ w h (esN_val (1 + c % 2) y) (by omega) (by omega))
    have KW := Lib.hid (fun n w a b => rWOf_any n w a b)
    have KF := Lib.hid (fun w => Fails_ok (1 + c % 2) y w h)
    have hs := esN_sunday (1 + c % 2) y
    have hb := esN_bounds (1 + c % 2) y h
    have hq := eqN_bounds (1 + c % 2) y (fit_cal _ y h).2.1 (fit_cal _ y h).2.2
    have he := esN_val (1 + c % 2) y
    clear a1 a2 a3 e0 h hv
    generalize dmo (easI (1 + c % 2) y) = x2 at *
    generalize dda (easI (1 + c % 2) y) = x3 at *
    generalize dmo (moonI (1 + c % 2) y) = z2 at *
    generalize dda (moonI (1 + c % 2) y) = z3 at *
    generalize easI (1 + c % 2) y = i at *
    generalize moonI (1 + c % 2) y = j at *
    generalize esN (1 + c % 2) y = n at *
    generalize eqN (1 + c % 2) y = q at *
    go_enter Tryd.func9, Tryd.ntmps9
    go_wp2_with fail
    (go_at_call 34; refine (Eas_awake _ (KT.out _ (by repeat (first | with_reducible exact Kept.refl _ | with_reducible assumption | with_reducible refine Kept.drew ?_ | with_reducible refine Kept.drewN ?_ _ | with_reducible refine Kept.alloc ?_ _ | (with_reducible refine Kept.setCell ?_ (by first | exact Nat.le_refl _ | omega | (simp; done) | (simp; omega)) _) | (with_reducible refine Kept.trans ?_ (by with_reducible assumption)))))).mono ?_; rintro e w1 ⟨rfl, hk1⟩)
    go_wp2_with fail
    (go_at_call 21; refine (KF.out _).mono ?_; rintro e w1 ⟨rfl, rfl⟩)
    go_wp2_with fail
    (go_at_call 35; refine (KD.out _ (KT.out _ (by repeat (first | with_reducible exact Kept.refl _ | with_reducible assumption | with_reducible refine Kept.drew ?_ | with_reducible refine Kept.drewN ?_ _ | with_reducible refine Kept.alloc ?_ _ | (with_reducible refine Kept.setCell ?_ (by first | exact Nat.le_refl _ | omega | (simp; done) | (simp; omega)) _) | (with_reducible refine Kept.trans ?_ (by with_reducible assumption)))))).mono ?_; rintro e w2 ⟨rfl, hk2⟩)
    go_wp2_with fail
    (go_at_call 36; refine (KE.out _ (KT.out _ (by repeat (first | with_reducible exact Kept.refl _ | with_reducible assumption | with_reducible refine Kept.drew ?_ | with_reducible refine Kept.drewN ?_ _ | with_reducible refine Kept.alloc ?_ _ | (with_reducible refine Kept.setCell ?_ (by first | exact Nat.le_refl _ | omega | (simp; done) | (simp; omega)) _) | (with_reducible refine Kept.trans ?_ (by with_reducible assumption)))))).mono ?_; rintro e w3 ⟨rfl, hk3⟩)
    go_wp2_with fail
    (go_at_call 22; refine (KM.out _).mono ?_; rintro e w4 ⟨rfl, hk4⟩)
    have hB4_4 := hk4
    obtain ⟨hc4_4, hf4_4⟩ := kept_cells hB4_4
    have hz4_0_4 : w3.heap.size < w4.heap.size := by have := hB4_4.size; simp at this; omega
    go_wp2_with fail
    (go_at_call 26; refine (K1.out _).mono ?_; rintro e w5 ⟨rfl, hk5⟩)
    have hB4_5 := Kept.trans hB4_4 hk5
    obtain ⟨hc4_5, hf4_5⟩ := kept_cells hB4_5
    have hz4_0_5 : w3.heap.size < w5.heap.size := by have := hB4_5.size; simp at this; omega
    go_wp2_with fail
    (go_at_call 26; refine (K2.out _).mono ?_; rintro e w6 ⟨rfl, hk6⟩)
    have hB4_6 := Kept.trans hB4_5 hk6
    obtain ⟨hc4_6, hf4_6⟩ := kept_cells hB4_6
    have hz4_0_6 : w3.heap.size < w6.heap.size := by have := hB4_6.size; simp at this; omega
    go_wp2_with fail
    (go_at_call 26; refine (K3.out _).mono ?_; rintro e w7 ⟨rfl, hk7⟩)
    have hB4_7 := Kept.trans hB4_6 hk7
    obtain ⟨hc4_7, hf4_7⟩ := kept_cells hB4_7
    have hz4_0_7 : w3.heap.size < w7.heap.size := by have := hB4_7.size; simp at this; omega
    go_wp2_with (go_at_call 40; (with_reducible refine (KW.out _ _ (by omega) (by omega)).mono ?_); rintro e v1 ⟨rfl, rfl⟩)
    go_ret
    exact ⟨rfl, (by repeat (first | with_reducible exact Kept.refl _ | with_reducible assumption | with_reducible refine Kept.drew ?_ | with_reducible refine Kept.drewN ?_ _ | with_reducible refine Kept.alloc ?_ _ | (with_reducible refine Kept.setCell ?_ (by first | exact Nat.le_refl _ | omega | (simp; done) | (simp; omega)) _) | (with_reducible refine Kept.trans ?_ (by with_reducible assumption))))⟩
  · have KF := Lib.hid (fun w => Fails_off (1 + c % 2) y w h)
    clear e0 h
    go_enter Tryd.func9, Tryd.ntmps9
    go_wp2_with fail
    (go_at_call 34; refine (Eas_awake _ (KT.out _ (by repeat (first | with_reducible exact Kept.refl _ | with_reducible assumption | with_reducible refine Kept.drew ?_ | with_reducible refine Kept.drewN ?_ _ | with_reducible refine Kept.alloc ?_ _ | (with_reducible refine Kept.setCell ?_ (by first | exact Nat.le_refl _ | omega | (simp; done) | (simp; omega)) _) | (with_reducible refine Kept.trans ?_ (by with_reducible assumption)))))).mono ?_; rintro e w1 ⟨rfl, hk1⟩)
    go_wp2_with fail
    (go_at_call 21; refine (KF.out _).mono ?_; rintro e w1 ⟨rfl, rfl⟩)
    go_wp2_with fail
    (go_at_call 34; refine (Eas_awake _ (KT.out _ (by repeat (first | with_reducible exact Kept.refl _ | with_reducible assumption | with_reducible refine Kept.drew ?_ | with_reducible refine Kept.drewN ?_ _ | with_reducible refine Kept.alloc ?_ _ | (with_reducible refine Kept.setCell ?_ (by first | exact Nat.le_refl _ | omega | (simp; done) | (simp; omega)) _) | (with_reducible refine Kept.trans ?_ (by with_reducible assumption)))))).mono ?_; rintro e w2 ⟨rfl, hk2⟩)
    go_wp2
    go_ret
    exact ⟨rfl, (by repeat (first | with_reducible exact Kept.refl _ | with_reducible assumption | with_reducible refine Kept.drew ?_ | with_reducible refine Kept.drewN ?_ _ | with_reducible refine Kept.alloc ?_ _ | (with_reducible refine Kept.setCell ?_ (by first | exact Nat.le_refl _ | omega | (simp; done) | (simp; omega)) _) | (with_reducible refine Kept.trans ?_ (by with_reducible assumption))))⟩
  · omega

set_option maxRecDepth 100000 in
theorem EasterIsSunday_contract (H : Type) (enc : TypeId × Value → H) (W : World) (base : Nat) (args : Array Value) (ds gs : List (DataW H)) (before : List MemPlace)
    (hval : ∀ (j : Nat) t v, Tryd.f9.params[j]? = some t → args[j]? = some v → Value.okWide Tryd.prog W .any base t v)
    (hW : DataW.Whole enc Tryd.prog Tryd.f9.params.toList Rows.easterIsSundaySpec.vars false W args.toList ds gs before) (hL : laidMetH Tryd.prog Rows.easterIsSundayRow.laid W) :
    Calls Tryd.prog 9 args W fun e W' => ∃ v, e = .returned v ∧ Rows.easterIsSundaySpec.post enc Tryd.prog Tryd.f9 false true false false W args v W' := by
  have hW' := hW
  obtain ⟨p, q, hA0, hV, rfl, hfz, hnd⟩ := hW
  have hA : DataW.TrodAll enc Tryd.prog W 0 (fun _ => true) true Tryd.f9.params.toList args.toList ds p := hA0
  rw [Tryd.params9] at hA hval
  obtain ⟨v0, vs0, d0, ds0, p0, q0, hargs, rfl, rfl, h0, r0⟩ := trodAll_cons hA
  obtain ⟨v1, vs1, d1, ds1, p1, q1, rfl, rfl, rfl, h1, r1⟩ := trodAll_cons r0
  obtain ⟨rfl, rfl, rfl⟩ := trodAll_nil r1
  obtain rfl : args = #[v0, v1] := by cases args; simp_all
  obtain ⟨rfl, rfl⟩ := trodVars_none hV
  obtain ⟨a0, rfl, rfl, rfl, w0⟩ := open_int Tryd.underlying5 (hval 0 5 v0 rfl rfl) h0
  obtain ⟨a1, rfl, rfl, rfl, w1⟩ := open_int Tryd.underlying3 (hval 1 3 v1 rfl rfl) h1
  clear hA0
  simp only [List.append_nil] at hW'
  refine (EasterIsSunday_walk a0 a1 (wf_bounds8 w0) (wf_bounds w1) W (tab_of hL)).mono fun e W' ⟨he, hg⟩ => ?_
  subst he
  exact ⟨_, rfl, post_of_kept (pa := []) (pv := []) hW' (fun _ _ _ => (trodAll_cons_mk (shut_bool Tryd.underlying4 _) trodAll_mk0)) (fun sp _ => (trodAll_cons_mk (shut_int Tryd.underlying5 w0) (trodAll_cons_mk (shut_int Tryd.underlying3 w1) trodAll_mk0))) (fun _ _ => rfl) rfl
    hg (ok_one (by kernel_rfl) rfl (okWide_bool_mk Tryd.underlying4 _))⟩
theorem EasterIsSunday_laid (os : Os) : laidMet Tryd.prog Rows.easterIsSundayRow.laid ((laidWorld os).forCall (fun _ _ => 0) ⟨#[], #[.int .u8 0, .int .i64 0], []⟩).memory :=
  laidMet_of_run' 8 (by kernel_rfl) (by kernel_rfl)
theorem EasterIsSunday_reads (os : Os) {H : Type} (enc : TypeId × Value → H) : ∃ places, DataW.whole enc Tryd.prog ((laidWorld os).forCall (fun _ _ => 0) ⟨#[], #[.int .u8 0, .int .i64 0], []⟩).memory Tryd.f9.params.toList Rows.easterIsSundaySpec.vars false (#[.int .u8 0, .int .i64 0] : Array Value).toList 8 = some ([.lit (.int .u8 0), .lit (.int .i64 0)], [], places) :=
  ⟨[], by kernel_rfl⟩
set_option maxRecDepth 100000 in
theorem EasterIsSunday_lifted (os : Os) (started : os.Started) (H : Type) (enc : TypeId × Value → H) (F : Stop.Interp) :
    ReturnsInHanded {} Tryd.checked os 9 .any ((OpenSpec.ofChange Rows.easterIsSundaySpec).preRow enc Tryd.prog Tryd.f9 Rows.easterIsSundayRow.domain false Rows.easterIsSundayRow.laid) (((OpenSpec.ofChange Rows.easterIsSundaySpec).at F).post enc Tryd.prog Tryd.f9 false true false false) := by
  obtain ⟨places, hx⟩ := EasterIsSunday_reads os enc
  refine returnsInHanded_of_row (C := Tryd.checked) (s := OpenSpec.ofChange Rows.easterIsSundaySpec) own_knob started (by kernel_rfl) Tryd.func9
    (witness_row_at (enc := enc) (C := Tryd.checked) false (laidWorld os) #[.int .u8 0, .int .i64 0] rfl (by kernel_rfl) (by kernel_rfl) (by kernel_rfl)
      (OpenSpec.preRow_of_cond 8 hx (by kernel_rfl) (fun k hk => by cases hk) (by kernel_rfl) (EasterIsSunday_laid os))) ?_
  intro W base args ds gs before hval hW _ _ _ hL _ _
  exact EasterIsSunday_contract H enc W base args ds gs before hval hW hL
theorem EasterIsSunday_closed : joinedFacts Tryd.pinned.checked.prog 9 Tryd.f9 (OpenSpec.ofChange Rows.easterIsSundaySpec).bare Rows.easterIsSundayRow = true := by
  unfold joinedFacts
  simp only [Bool.and_eq_true]
  repeat' apply And.intro
  all_goals (first | with_reducible exact head_enter | (rw [head_make]; rfl) | (rw [head_final]; rfl) | (as_aux_lemma => kernel_rfl))
theorem EasterIsSunday_said : Rows.EasterIsSundaySaid :=
  OpenClaim.holds_of_cond 9 Tryd.f9 rfl rfl rfl rfl rfl rfl rfl ⟨rfl, rfl, rfl, rfl, rfl⟩ rfl rfl rfl rfl rfl (by kernel_rfl) Tryd.func9 EasterIsSunday_closed
    (of_decide_eq_true (by kernel_rfl)) (by unfold Func.isWrapper; first | (rw [if_pos (by decide +kernel)]; kernel_rfl) | (rw [if_neg (by decide +kernel)]; exact ⟨rfl, rfl⟩))
    (fun os started H enc _ F => by rw [OpenClaim.pre_eq_preRow]; exact EasterIsSunday_lifted os started H enc F)
theorem EasterIsSunday_plain (f : FuncId) (fn : Func) (hf : Tryd.pinned.checked.prog.funcNamed "computus/computuslaw10.EasterIsSunday" = some f) (hfn : Tryd.pinned.checked.prog.funcs[f]? = some fn) :
    false = Tryd.pinned.checked.prog.looks [] ∧ ∀ (j : Nat) t, fn.params[j]? = some t → Tryd.pinned.checked.prog.wantsStandIn t = false := by
  obtain rfl : f = 9 := Option.some.inj ((show Tryd.prog.funcNamed "computus/computuslaw10.EasterIsSunday" = some 9 by kernel_rfl).symm.trans hf) |>.symm
  obtain rfl : fn = Tryd.f9 := (Option.some.inj (Tryd.func9.symm.trans hfn)).symm
  refine ⟨by kernel_rfl, fun j t ht => ?_⟩
  rw [Tryd.params9] at ht
  have hm : t ∈ [5, 3] := by simpa using Array.mem_of_getElem? ht
  have hall : ([5, 3].all fun u => !Tryd.prog.wantsStandIn u) = true := by kernel_rfl
  exact (show Tryd.prog.wantsStandIn t = false by simpa using List.all_eq_true.1 hall t hm)
theorem EasterIsSunday_proved : Rows.EasterIsSundayCardSaid :=
  Claim7.holds_tied_plain_at .later [] _ _ _ _ EasterIsSunday_said (fun _ h => by cases h) (by kernel_rfl) (fun _ h => by cases h) easterIsSunday_row_tie rfl ⟨rfl, rfl⟩ (mainIs_of io_list (by kernel_rfl)) rfl EasterIsSunday_plain (by kernel_rfl)
#print axioms EasterIsSunday_proved
end Go.Proofs.YtliomdnglhjfaaaDoor

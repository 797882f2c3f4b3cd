/- PaschalIsTabular. -/
import Derived.Test.YtliomdnglhjfaaaDoorPasAw
import Derived.Test.YtliomdnglhjfaaaDoorLaidG
import Derived.Test.YtliomdnglhjfaaaDoorHead
set_option linter.unusedSimpArgs false
set_option linter.unusedVariables false
set_option linter.unusedSectionVars false
namespace Go.Proofs.YtliomdnglhjfaaaDoor
open Go.ChangeShapes Go.WideShapes Go.ChangeAt Go.RowKit
set_option maxHeartbeats 1000000
set_option maxRecDepth 20000

theorem rDay_at (k y i n : Int) (w : World) (h : Fit k y) (hn : n = eqN k y + i) (h1 : -20 ≤ i) (h2 : i ≤ 40) :
    Calls Tryd.prog 26 #[.int .i64 k, .agg #[.int .i64 y, .int .i64 (dmo i), .int .i64 (dda i)]] w fun e w' => e = .returned (.tuple #[.int .i64 n, .int .i64 0]) ∧ Kept w w' := by
  obtain ⟨e1, e2⟩ := day_c k y i h h1 h2
  have := refToDay_all k y (dmo i) (dda i) w
  rwa [e1, e2, ← hn] at this
theorem PaschalIsTabular_walk (c y : Int) (bc : 0 ≤ c ∧ c ≤ 255) (by0 : -9223372036854775808 ≤ y ∧ y ≤ 9223372036854775807) (w : World) (hT : RTab w) :
    Calls Tryd.prog 4 #[.int .u8 c, .int .i64 y] w fun e w' => e = .returned (.bool true) ∧ Kept w w' := by
  obtain ⟨bc1, bc2⟩ := bc
  obtain ⟨by1, by2⟩ := by0
  have KT := Lib.hid (fun w' (k : Kept w w') => hT.kept k)
  clear hT
  rcases fl_cases (1 + c % 2) y with ⟨h, e0⟩ | ⟨h, e0⟩ | ⟨h, e0⟩
  · have KA := Lib.hid (fun w hT => FullMoon_any (1 + c % 2) y w hT (fit_sm _ _ h))
    rw [e0, if_pos rfl] at KA
    have hm := moonI_bounds (1 + c % 2) y
    have K1 := Lib.hid (fun w => rDay_at (1 + c % 2) y (moonI (1 + c % 2) y) _ w h rfl (by omega) (by omega))
    have K2 := Lib.hid (fun w => rDay_at (1 + c % 2) y 0 _ w h (Int.add_zero _).symm (by omega) (by omega))
    rw [show dmo 0 = 3 from rfl, show dda 0 = 21 from rfl] at K2
    have KL := Lib.hid (fun w => rELabel_ok (1 + c % 2) y w h)
    have KX := Lib.hid (fun i n w (hn : n = eqN (1 + c % 2) y + i) a b => refFromDay_all (1 + c % 2) n y (dmo i) (dda i) 0 w (by rw [hn]; exact fd_day (1 + c % 2) y i h a b))
    have KB := Lib.hid (fun j w => rBears_of (dmo (j - 13)) (dda (j - 13)) (labN (1 + c % 2) y) w)
    have KM := Lib.hid (fun i a b => moon_bears (1 + c % 2) y i a b)
    have KF := Lib.hid (fun w => Fails_ok (1 + c % 2) y w h)
    have hq := eqN_bounds (1 + c % 2) y (fit_cal _ y h).2.1 (fit_cal _ y h).2.2
    have hlb := labN_bounds (1 + c % 2) y
    have hy := fit_cal _ y h
    clear e0 h
    generalize hgM : moonI (1 + c % 2) y = M at *
    generalize eqN (1 + c % 2) y = q at *
    generalize labN (1 + c % 2) y = l at *
    go_enter Tryd.func4, Tryd.ntmps4
    go_wp2_with fail
    (go_at_call 19; refine (Pas_awake _ (KT.out _ (by repeat (first | with_reducible exact Kept.refl _ | with_reducible assumption | with_reducible refine Kept.drew ?_ | with_reducible refine Kept.drewN ?_ _ | with_reducible refine Kept.alloc ?_ _ | (with_reducible refine Kept.setCell ?_ (by first | exact Nat.le_refl _ | omega | (simp; done) | (simp; omega)) _) | (with_reducible refine Kept.trans ?_ (by with_reducible assumption)))))).mono ?_; rintro e w1 ⟨rfl, hk1⟩)
    go_wp2_with fail
    (go_at_call 21; refine (KF.out _).mono ?_; rintro e w1 ⟨rfl, rfl⟩)
    go_wp2_with fail
    (go_at_call 20; refine (KA.out _ (KT.out _ (by repeat (first | with_reducible exact Kept.refl _ | with_reducible assumption | with_reducible refine Kept.drew ?_ | with_reducible refine Kept.drewN ?_ _ | with_reducible refine Kept.alloc ?_ _ | (with_reducible refine Kept.setCell ?_ (by first | exact Nat.le_refl _ | omega | (simp; done) | (simp; omega)) _) | (with_reducible refine Kept.trans ?_ (by with_reducible assumption)))))).mono ?_; rintro e w2 ⟨rfl, hk2⟩)
    go_wp2_with fail
    (go_at_call 26; refine (K1.out _).mono ?_; rintro e w3 ⟨rfl, hk3⟩)
    have hB3_3 := hk3
    obtain ⟨hc3_3, hf3_3⟩ := kept_cells hB3_3
    have hz3_0_3 : w2.heap.size < w3.heap.size := by have := hB3_3.size; simp at this; omega
    go_wp2_with fail
    (go_at_call 26; refine (K2.out _).mono ?_; rintro e w4 ⟨rfl, hk4⟩)
    have hB3_4 := Kept.trans hB3_3 hk4
    obtain ⟨hc3_4, hf3_4⟩ := kept_cells hB3_4
    have hz3_0_4 : w2.heap.size < w4.heap.size := by have := hB3_4.size; simp at this; omega
    go_wp2_with fail
    (go_at_call 27; refine (KL.out _).mono ?_; rintro e w1 ⟨rfl, rfl⟩)
    go_wp2_with fail
    go_loopw [13] (fun i wr => ∃ j : Int, 0 ≤ j ∧ j ≤ M + 1 ∧ i = .int .i64 (q + j) ∧ Kept w wr) (fun i _ => (q + 40 - intOf i).toNat)
    case atStart => exact ⟨0, by omega, by omega, by go_num, (by repeat (first | with_reducible exact Kept.refl _ | with_reducible assumption | with_reducible refine Kept.drew ?_ | with_reducible refine Kept.drewN ?_ _ | with_reducible refine Kept.alloc ?_ _ | (with_reducible refine Kept.setCell ?_ (by first | exact Nat.le_refl _ | omega | (simp; done) | (simp; omega)) _) | (with_reducible refine Kept.trans ?_ (by with_reducible assumption))))⟩
    case round =>
      obtain ⟨j, j0, j1, rfl, hkw⟩ := hrel
      by_cases hj : j ≤ M
      · go_wp2_with fail
        go_at_call 28
        refine (KX.out (j - 13) _ _ (by omega) (by omega) (by omega)).mono ?_
        rintro e v1 ⟨rfl, q1⟩
        have K1' := (hkw.trans q1).alloc (.cells #[.int .i64 y, .int .i64 (dmo (j - 13)), .int .i64 (dda (j - 13))] 23)
        go_wp2_with fail
        go_at_call 29
        refine (KB.out j _).mono ?_
        rw [KM.out j (by omega) (by omega)]
        rintro e v2 ⟨rfl, q2⟩
        have K2' := K1'.trans q2
        by_cases he : j = M
        · rw [decide_eq_true he]
          subst he
          go_wp2_with fail
          go_roundw
          case rel => exact ⟨j + 1, by omega, by omega, by go_num, K2'⟩
          case measure => simp [intOf]; omega
        · rw [decide_eq_false he]
          have hne : (q + j == q + M) = false := beq_false_of_ne (by omega)
          go_wp2_with fail
          go_roundw
          case rel => exact ⟨j + 1, by omega, by omega, by go_num, K2'⟩
          case measure => simp [intOf]; omega
      · obtain rfl : j = M + 1 := by omega
        go_wp2
        go_ret
        exact ⟨rfl, hkw⟩
  · have KF := Lib.hid (fun w => Fails_off (1 + c % 2) y w h)
    clear e0 h
    go_enter Tryd.func4, Tryd.ntmps4
    go_wp2_with fail
    (go_at_call 19; refine (Pas_awake _ (KT.out _ (by repeat (first | with_reducible exact Kept.refl _ | with_reducible assumption | with_reducible refine Kept.drew ?_ | with_reducible refine Kept.drewN ?_ _ | with_reducible refine Kept.alloc ?_ _ | (with_reducible refine Kept.setCell ?_ (by first | exact Nat.le_refl _ | omega | (simp; done) | (simp; omega)) _) | (with_reducible refine Kept.trans ?_ (by with_reducible assumption)))))).mono ?_; rintro e w1 ⟨rfl, hk1⟩)
    go_wp2_with fail
    (go_at_call 21; refine (KF.out _).mono ?_; rintro e w1 ⟨rfl, rfl⟩)
    go_wp2_with fail
    (go_at_call 19; refine (Pas_awake _ (KT.out _ (by repeat (first | with_reducible exact Kept.refl _ | with_reducible assumption | with_reducible refine Kept.drew ?_ | with_reducible refine Kept.drewN ?_ _ | with_reducible refine Kept.alloc ?_ _ | (with_reducible refine Kept.setCell ?_ (by first | exact Nat.le_refl _ | omega | (simp; done) | (simp; omega)) _) | (with_reducible refine Kept.trans ?_ (by with_reducible assumption)))))).mono ?_; rintro e w2 ⟨rfl, hk2⟩)
    go_wp2
    go_ret
    exact ⟨rfl, (by repeat (first | with_reducible exact Kept.refl _ | with_reducible assumption | with_reducible refine Kept.drew ?_ | with_reducible refine Kept.drewN ?_ _ | with_reducible refine Kept.alloc ?_ _ | (with_reducible refine Kept.setCell ?_ (by first | exact Nat.le_refl _ | omega | (simp; done) | (simp; omega)) _) | (with_reducible refine Kept.trans ?_ (by with_reducible assumption))))⟩
  · omega

set_option maxRecDepth 100000 in
theorem PaschalIsTabular_contract (H : Type) (enc : TypeId × Value → H) (W : World) (base : Nat) (args : Array Value) (ds gs : List (DataW H)) (before : List MemPlace)
    (hval : ∀ (j : Nat) t v, Tryd.f4.params[j]? = some t → args[j]? = some v → Value.okWide Tryd.prog W .any base t v)
    (hW : DataW.Whole enc Tryd.prog Tryd.f4.params.toList Rows.paschalIsTabularSpec.vars false W args.toList ds gs before) (hL : laidMetH Tryd.prog Rows.paschalIsTabularRow.laid W) :
    Calls Tryd.prog 4 args W fun e W' => ∃ v, e = .returned v ∧ Rows.paschalIsTabularSpec.post enc Tryd.prog Tryd.f4 false true false false W args v W' := by
  have hW' := hW
  obtain ⟨p, q, hA0, hV, rfl, hfz, hnd⟩ := hW
  have hA : DataW.TrodAll enc Tryd.prog W 0 (fun _ => true) true Tryd.f4.params.toList args.toList ds p := hA0
  rw [Tryd.params4] at hA hval
  obtain ⟨v0, vs0, d0, ds0, p0, q0, hargs, rfl, rfl, h0, r0⟩ := trodAll_cons hA
  obtain ⟨v1, vs1, d1, ds1, p1, q1, rfl, rfl, rfl, h1, r1⟩ := trodAll_cons r0
  obtain ⟨rfl, rfl, rfl⟩ := trodAll_nil r1
  obtain rfl : args = #[v0, v1] := by cases args; simp_all
  obtain ⟨rfl, rfl⟩ := trodVars_none hV
  obtain ⟨a0, rfl, rfl, rfl, w0⟩ := open_int Tryd.underlying5 (hval 0 5 v0 rfl rfl) h0
  obtain ⟨a1, rfl, rfl, rfl, w1⟩ := open_int Tryd.underlying3 (hval 1 3 v1 rfl rfl) h1
  clear hA0
  simp only [List.append_nil] at hW'
  refine (PaschalIsTabular_walk a0 a1 (wf_bounds8 w0) (wf_bounds w1) W (tab_of hL)).mono fun e W' ⟨he, hg⟩ => ?_
  subst he
  exact ⟨_, rfl, post_of_kept (pa := []) (pv := []) hW' (fun _ _ _ => (trodAll_cons_mk (shut_bool Tryd.underlying4 _) trodAll_mk0)) (fun sp _ => (trodAll_cons_mk (shut_int Tryd.underlying5 w0) (trodAll_cons_mk (shut_int Tryd.underlying3 w1) trodAll_mk0))) (fun _ _ => rfl) rfl
    hg (ok_one (by kernel_rfl) rfl (okWide_bool_mk Tryd.underlying4 _))⟩
theorem PaschalIsTabular_laid (os : Os) : laidMet Tryd.prog Rows.paschalIsTabularRow.laid ((laidWorld os).forCall (fun _ _ => 0) ⟨#[], #[.int .u8 0, .int .i64 0], []⟩).memory :=
  laidMet_of_run' 8 (by kernel_rfl) (by kernel_rfl)
theorem PaschalIsTabular_reads (os : Os) {H : Type} (enc : TypeId × Value → H) : ∃ places, DataW.whole enc Tryd.prog ((laidWorld os).forCall (fun _ _ => 0) ⟨#[], #[.int .u8 0, .int .i64 0], []⟩).memory Tryd.f4.params.toList Rows.paschalIsTabularSpec.vars false (#[.int .u8 0, .int .i64 0] : Array Value).toList 8 = some ([.lit (.int .u8 0), .lit (.int .i64 0)], [], places) :=
  ⟨[], by kernel_rfl⟩
set_option maxRecDepth 100000 in
theorem PaschalIsTabular_lifted (os : Os) (started : os.Started) (H : Type) (enc : TypeId × Value → H) (F : Stop.Interp) :
    ReturnsInHanded {} Tryd.checked os 4 .any ((OpenSpec.ofChange Rows.paschalIsTabularSpec).preRow enc Tryd.prog Tryd.f4 Rows.paschalIsTabularRow.domain false Rows.paschalIsTabularRow.laid) (((OpenSpec.ofChange Rows.paschalIsTabularSpec).at F).post enc Tryd.prog Tryd.f4 false true false false) := by
  obtain ⟨places, hx⟩ := PaschalIsTabular_reads os enc
  refine returnsInHanded_of_row (C := Tryd.checked) (s := OpenSpec.ofChange Rows.paschalIsTabularSpec) own_knob started (by kernel_rfl) Tryd.func4
    (witness_row_at (enc := enc) (C := Tryd.checked) false (laidWorld os) #[.int .u8 0, .int .i64 0] rfl (by kernel_rfl) (by kernel_rfl) (by kernel_rfl)
      (OpenSpec.preRow_of_cond 8 hx (by kernel_rfl) (fun k hk => by cases hk) (by kernel_rfl) (PaschalIsTabular_laid os))) ?_
  intro W base args ds gs before hval hW _ _ _ hL _ _
  exact PaschalIsTabular_contract H enc W base args ds gs before hval hW hL
theorem PaschalIsTabular_closed : joinedFacts Tryd.pinned.checked.prog 4 Tryd.f4 (OpenSpec.ofChange Rows.paschalIsTabularSpec).bare Rows.paschalIsTabularRow = true := by
  unfold joinedFacts
  simp only [Bool.and_eq_true]
  repeat' apply And.intro
  all_goals (first | with_reducible exact head_enter | (rw [head_make]; rfl) | (rw [head_final]; rfl) | (as_aux_lemma => kernel_rfl))
theorem PaschalIsTabular_said : Rows.PaschalIsTabularSaid :=
  OpenClaim.holds_of_cond 4 Tryd.f4 rfl rfl rfl rfl rfl rfl rfl ⟨rfl, rfl, rfl, rfl, rfl⟩ rfl rfl rfl rfl rfl (by kernel_rfl) Tryd.func4 PaschalIsTabular_closed
    (of_decide_eq_true (by kernel_rfl)) (by unfold Func.isWrapper; first | (rw [if_pos (by decide +kernel)]; kernel_rfl) | (rw [if_neg (by decide +kernel)]; exact ⟨rfl, rfl⟩))
    (fun os started H enc _ F => by rw [OpenClaim.pre_eq_preRow]; exact PaschalIsTabular_lifted os started H enc F)
theorem PaschalIsTabular_plain (f : FuncId) (fn : Func) (hf : Tryd.pinned.checked.prog.funcNamed "computus/computuslaw09.PaschalIsTabular" = some f) (hfn : Tryd.pinned.checked.prog.funcs[f]? = some fn) :
    false = Tryd.pinned.checked.prog.looks [] ∧ ∀ (j : Nat) t, fn.params[j]? = some t → Tryd.pinned.checked.prog.wantsStandIn t = false := by
  obtain rfl : f = 4 := Option.some.inj ((show Tryd.prog.funcNamed "computus/computuslaw09.PaschalIsTabular" = some 4 by kernel_rfl).symm.trans hf) |>.symm
  obtain rfl : fn = Tryd.f4 := (Option.some.inj (Tryd.func4.symm.trans hfn)).symm
  refine ⟨by kernel_rfl, fun j t ht => ?_⟩
  rw [Tryd.params4] at ht
  have hm : t ∈ [5, 3] := by simpa using Array.mem_of_getElem? ht
  have hall : ([5, 3].all fun u => !Tryd.prog.wantsStandIn u) = true := by kernel_rfl
  exact (show Tryd.prog.wantsStandIn t = false by simpa using List.all_eq_true.1 hall t hm)
theorem PaschalIsTabular_proved : Rows.PaschalIsTabularCardSaid :=
  Claim7.holds_tied_plain_at .later [] _ _ _ _ PaschalIsTabular_said (fun _ h => by cases h) (by kernel_rfl) (fun _ h => by cases h) paschalIsTabular_row_tie rfl ⟨rfl, rfl⟩ (mainIs_of io_list (by kernel_rfl)) rfl PaschalIsTabular_plain (by kernel_rfl)
#print axioms PaschalIsTabular_proved
end Go.Proofs.YtliomdnglhjfaaaDoor

/- EasterNextYear. -/
import Derived.Test.YtliomdnglhjfaaaDoorEasAw
import Derived.Test.YtliomdnglhjfaaaDoorLaidG
import Derived.Test.YtliomdnglhjfaaaDoorMoonG
import Derived.Test.YtliomdnglhjfaaaDoorHead
set_option linter.unusedSimpArgs false
set_option linter.unusedVariables false
set_option linter.unusedSectionVars false
namespace Go.Proofs.YtliomdnglhjfaaaDoor
open Go.ChangeShapes Go.WideShapes Go.ChangeAt Go.RowKit
set_option maxHeartbeats 1000000
set_option maxRecDepth 20000

theorem gM_step (k y : Int) (h : Fit k y) : ∃ t : Int, -1 ≤ t ∧ t ≤ 1 ∧ (gM k (y + 1) - gM k y - t) % 30 = 0 := by
  unfold gM
  rcases h with ⟨⟨rfl, h1⟩ | ⟨rfl, h1⟩, h2⟩
  · rw [if_pos rfl, if_pos rfl]; exact ⟨0, by omega, by omega, by omega⟩
  · rw [if_neg (by decide), if_neg (by decide)]
    refine ⟨(-((13 + 8 * ((y + 1) / 100)) / 25) + (y + 1) / 100 - (y + 1) / 100 / 4) - (-((13 + 8 * (y / 100)) / 25) + y / 100 - y / 100 / 4), ?_, ?_, ?_⟩
    · rcases (show (y + 1) / 100 = y / 100 ∨ (y + 1) / 100 = y / 100 + 1 by omega) with e | e
      · rw [e]; omega
      · rw [e]
        generalize y / 100 = b
        have a1 : (13 + 8 * b) / 25 ≤ (13 + 8 * (b + 1)) / 25 := by omega
        have a2 : (13 + 8 * (b + 1)) / 25 ≤ (13 + 8 * b) / 25 + 1 := by omega
        have a3 : b / 4 ≤ (b + 1) / 4 := by omega
        have a4 : (b + 1) / 4 ≤ b / 4 + 1 := by omega
        generalize (13 + 8 * b) / 25 = p at *
        generalize (13 + 8 * (b + 1)) / 25 = p' at *
        generalize b / 4 = q at *
        generalize (b + 1) / 4 = q' at *
        omega
    · rcases (show (y + 1) / 100 = y / 100 ∨ (y + 1) / 100 = y / 100 + 1 by omega) with e | e
      · rw [e]; omega
      · rw [e]
        generalize y / 100 = b
        have a1 : (13 + 8 * b) / 25 ≤ (13 + 8 * (b + 1)) / 25 := by omega
        have a2 : (13 + 8 * (b + 1)) / 25 ≤ (13 + 8 * b) / 25 + 1 := by omega
        have a3 : b / 4 ≤ (b + 1) / 4 := by omega
        have a4 : (b + 1) / 4 ≤ b / 4 + 1 := by omega
        generalize (13 + 8 * b) / 25 = p at *
        generalize (13 + 8 * (b + 1)) / 25 = p' at *
        generalize b / 4 = q at *
        generalize (b + 1) / 4 = q' at *
        omega
    · omega
theorem gD_step (k y : Int) (h : Fit k y) : (-13 ≤ gD k (y + 1) - gD k y ∧ gD k (y + 1) - gD k y ≤ -9) ∨ (17 ≤ gD k (y + 1) - gD k y ∧ gD k (y + 1) - gD k y ≤ 21) := by
  obtain ⟨t, t1, t2, t3⟩ := gM_step k y h
  have h1 := gD_range k y
  have h2 := gD_range k (y + 1)
  unfold gD at *
  generalize gM k (y + 1) = M' at *
  generalize gM k y = M at *
  have ha : (y + 1) % 19 = y % 19 + 1 ∨ (y + 1) % 19 = 0 ∧ y % 19 = 18 := by omega
  rcases ha with e | ⟨e, e'⟩
  · rw [e] at *
    generalize y % 19 = a at *
    omega
  · rw [e, e'] at *
    omega
theorem fit_next (k y : Int) (h : Fit k y) (h' : y ≠ 1000000000) : Fit k (y + 1) := by unfold Fit at *; omega
theorem next_ok (k y : Int) (h : Fit k y) (h' : y ≠ 1000000000) : (esN k (y + 1) - esN k y) % 7 = 0 ∧ 343 ≤ esN k (y + 1) - esN k y ∧ esN k (y + 1) - esN k y ≤ 392 := by
  have hf := fit_next k y h h'
  have s1 := esN_sunday k y
  have s2 := esN_sunday k (y + 1)
  have e1 := esN_val k y
  have e2 := esN_val k (y + 1)
  have i1 := easI_bounds k y
  have i2 := easI_bounds k (y + 1)
  have q1 := eqN_val k y
  have q2 := eqN_val k (y + 1)
  have f := fst_succ k (y + 1)
  have m1 := moonI_gauss k y h
  have m2 := moonI_gauss k (y + 1) hf
  have x1 := gX_early k y h
  have x2 := gX_early k (y + 1) hf
  have d := gD_step k y h
  have hl : (if lp k (y + 1) then (1 : Int) else 0) = 0 ∨ (if lp k (y + 1) then (1 : Int) else 0) = 1 := by split <;> simp
  omega
theorem EasterNextYear_walk (c y : Int) (bc : 0 ≤ c ∧ c ≤ 255) (by0 : -9223372036854775808 ≤ y ∧ y ≤ 9223372036854775807) (w : World) (hT : RTab w) :
    Calls Tryd.prog 11 #[.int .u8 c, .int .i64 y] w fun e w' => e = .returned (.bool true) ∧ Kept w w' := by
  obtain ⟨bc1, bc2⟩ := bc
  obtain ⟨by1, by2⟩ := by0
  have KT := Lib.hid (fun w' (k : Kept w w') => hT.kept k)
  clear hT
  rcases fl_cases (1 + c % 2) y with ⟨h, e0⟩ | ⟨h, e0⟩ | ⟨h, e0⟩
  · have KF := Lib.hid (fun w => Fails_ok (1 + c % 2) y w h)
    by_cases hy : y = 1000000000
    · subst hy
      clear e0 h
      go_enter Tryd.func11, Tryd.ntmps11
      go_wp2_with fail
      (go_at_call 34; refine (Eas_awake _ (KT.out _ (by repeat (first | with_reducible exact Kept.refl _ | with_reducible assumption | with_reducible refine Kept.drew ?_ | with_reducible refine Kept.drewN ?_ _ | with_reducible refine Kept.alloc ?_ _ | (with_reducible refine Kept.setCell ?_ (by first | exact Nat.le_refl _ | omega | (simp; done) | (simp; omega)) _) | (with_reducible refine Kept.trans ?_ (by with_reducible assumption)))))).mono ?_; rintro e w1 ⟨rfl, hk1⟩)
      go_wp2_with fail
      (go_at_call 21; refine (KF.out _).mono ?_; rintro e w1 ⟨rfl, rfl⟩)
      go_wp2_with fail
      (go_at_call 34; refine (Eas_awake _ (KT.out _ (by repeat (first | with_reducible exact Kept.refl _ | with_reducible assumption | with_reducible refine Kept.drew ?_ | with_reducible refine Kept.drewN ?_ _ | with_reducible refine Kept.alloc ?_ _ | (with_reducible refine Kept.setCell ?_ (by first | exact Nat.le_refl _ | omega | (simp; done) | (simp; omega)) _) | (with_reducible refine Kept.trans ?_ (by with_reducible assumption)))))).mono ?_; rintro e w2 ⟨rfl, hk2⟩)
      go_wp2
      go_ret
      exact ⟨rfl, (by repeat (first | with_reducible exact Kept.refl _ | with_reducible assumption | with_reducible refine Kept.drew ?_ | with_reducible refine Kept.drewN ?_ _ | with_reducible refine Kept.alloc ?_ _ | (with_reducible refine Kept.setCell ?_ (by first | exact Nat.le_refl _ | omega | (simp; done) | (simp; omega)) _) | (with_reducible refine Kept.trans ?_ (by with_reducible assumption))))⟩
    · have hf := fit_next _ y h hy
      have e1 : flE (1 + c % 2) (y + 1) = 0 := by
        rcases fl_cases (1 + c % 2) (y + 1) with ⟨_, e⟩ | ⟨g, _⟩ | ⟨g, _⟩
        · exact e
        · unfold Fit at hf; unfold Off at g; omega
        · omega
      have KD := Lib.hid (fun w hT => EDay_any (1 + c % 2) y w hT (fit_sm _ _ h))
      have KE := Lib.hid (fun w hT => EDay_any (1 + c % 2) (y + 1) w hT (fit_sm _ _ h))
      have hv : esV (1 + c % 2) y = esN (1 + c % 2) y := if_pos e0
      have hv' : esV (1 + c % 2) (y + 1) = esN (1 + c % 2) (y + 1) := if_pos e1
      rw [hv, e0] at KD
      rw [hv', e1] at KE
      obtain ⟨n1, n2, n3⟩ := next_ok _ y h hy
      have hb := esN_bounds (1 + c % 2) y h
      have hb' := esN_bounds (1 + c % 2) (y + 1) hf
      have hle : y < 1000000000 := by unfold Fit at hf; omega
      have hge : 1 ≤ y := by unfold Fit at h; omega
      clear hv hv' e0 e1 h hf
      generalize esN (1 + c % 2) y = n at *
      generalize esN (1 + c % 2) (y + 1) = n' at *
      go_enter Tryd.func11, Tryd.ntmps11
      go_wp2_with fail
      (go_at_call 34; refine (Eas_awake _ (KT.out _ (by repeat (first | with_reducible exact Kept.refl _ | with_reducible assumption | with_reducible refine Kept.drew ?_ | with_reducible refine Kept.drewN ?_ _ | with_reducible refine Kept.alloc ?_ _ | (with_reducible refine Kept.setCell ?_ (by first | exact Nat.le_refl _ | omega | (simp; done) | (simp; omega)) _) | (with_reducible refine Kept.trans ?_ (by with_reducible assumption)))))).mono ?_; rintro e w1 ⟨rfl, hk1⟩)
      go_wp2_with fail
      (go_at_call 21; refine (KF.out _).mono ?_; rintro e w1 ⟨rfl, rfl⟩)
      go_wp2_with fail
      (go_at_call 35; refine (KD.out _ (KT.out _ (by repeat (first | with_reducible exact Kept.refl _ | with_reducible assumption | with_reducible refine Kept.drew ?_ | with_reducible refine Kept.drewN ?_ _ | with_reducible refine Kept.alloc ?_ _ | (with_reducible refine Kept.setCell ?_ (by first | exact Nat.le_refl _ | omega | (simp; done) | (simp; omega)) _) | (with_reducible refine Kept.trans ?_ (by with_reducible assumption)))))).mono ?_; rintro e w2 ⟨rfl, hk2⟩)
      go_wp2_with fail
      (go_at_call 35; refine (KE.out _ (KT.out _ (by repeat (first | with_reducible exact Kept.refl _ | with_reducible assumption | with_reducible refine Kept.drew ?_ | with_reducible refine Kept.drewN ?_ _ | with_reducible refine Kept.alloc ?_ _ | (with_reducible refine Kept.setCell ?_ (by first | exact Nat.le_refl _ | omega | (simp; done) | (simp; omega)) _) | (with_reducible refine Kept.trans ?_ (by with_reducible assumption)))))).mono ?_; rintro e w3 ⟨rfl, hk3⟩)
      go_wp2
      go_ret
      exact ⟨rfl, (by repeat (first | with_reducible exact Kept.refl _ | with_reducible assumption | with_reducible refine Kept.drew ?_ | with_reducible refine Kept.drewN ?_ _ | with_reducible refine Kept.alloc ?_ _ | (with_reducible refine Kept.setCell ?_ (by first | exact Nat.le_refl _ | omega | (simp; done) | (simp; omega)) _) | (with_reducible refine Kept.trans ?_ (by with_reducible assumption))))⟩
  · have KF := Lib.hid (fun w => Fails_off (1 + c % 2) y w h)
    clear e0 h
    go_enter Tryd.func11, Tryd.ntmps11
    go_wp2_with fail
    (go_at_call 34; refine (Eas_awake _ (KT.out _ (by repeat (first | with_reducible exact Kept.refl _ | with_reducible assumption | with_reducible refine Kept.drew ?_ | with_reducible refine Kept.drewN ?_ _ | with_reducible refine Kept.alloc ?_ _ | (with_reducible refine Kept.setCell ?_ (by first | exact Nat.le_refl _ | omega | (simp; done) | (simp; omega)) _) | (with_reducible refine Kept.trans ?_ (by with_reducible assumption)))))).mono ?_; rintro e w1 ⟨rfl, hk1⟩)
    go_wp2_with fail
    (go_at_call 21; refine (KF.out _).mono ?_; rintro e w1 ⟨rfl, rfl⟩)
    go_wp2_with fail
    (go_at_call 34; refine (Eas_awake _ (KT.out _ (by repeat (first | with_reducible exact Kept.refl _ | with_reducible assumption | with_reducible refine Kept.drew ?_ | with_reducible refine Kept.drewN ?_ _ | with_reducible refine Kept.alloc ?_ _ | (with_reducible refine Kept.setCell ?_ (by first | exact Nat.le_refl _ | omega | (simp; done) | (simp; omega)) _) | (with_reducible refine Kept.trans ?_ (by with_reducible assumption)))))).mono ?_; rintro e w2 ⟨rfl, hk2⟩)
    go_wp2
    go_ret
    exact ⟨rfl, (by repeat (first | with_reducible exact Kept.refl _ | with_reducible assumption | with_reducible refine Kept.drew ?_ | with_reducible refine Kept.drewN ?_ _ | with_reducible refine Kept.alloc ?_ _ | (with_reducible refine Kept.setCell ?_ (by first | exact Nat.le_refl _ | omega | (simp; done) | (simp; omega)) _) | (with_reducible refine Kept.trans ?_ (by with_reducible assumption))))⟩
  · omega

set_option maxRecDepth 100000 in
theorem EasterNextYear_contract (H : Type) (enc : TypeId × Value → H) (W : World) (base : Nat) (args : Array Value) (ds gs : List (DataW H)) (before : List MemPlace)
    (hval : ∀ (j : Nat) t v, Tryd.f11.params[j]? = some t → args[j]? = some v → Value.okWide Tryd.prog W .any base t v)
    (hW : DataW.Whole enc Tryd.prog Tryd.f11.params.toList Rows.easterNextYearSpec.vars false W args.toList ds gs before) (hL : laidMetH Tryd.prog Rows.easterNextYearRow.laid W) :
    Calls Tryd.prog 11 args W fun e W' => ∃ v, e = .returned v ∧ Rows.easterNextYearSpec.post enc Tryd.prog Tryd.f11 false true false false W args v W' := by
  have hW' := hW
  obtain ⟨p, q, hA0, hV, rfl, hfz, hnd⟩ := hW
  have hA : DataW.TrodAll enc Tryd.prog W 0 (fun _ => true) true Tryd.f11.params.toList args.toList ds p := hA0
  rw [Tryd.params11] at hA hval
  obtain ⟨v0, vs0, d0, ds0, p0, q0, hargs, rfl, rfl, h0, r0⟩ := trodAll_cons hA
  obtain ⟨v1, vs1, d1, ds1, p1, q1, rfl, rfl, rfl, h1, r1⟩ := trodAll_cons r0
  obtain ⟨rfl, rfl, rfl⟩ := trodAll_nil r1
  obtain rfl : args = #[v0, v1] := by cases args; simp_all
  obtain ⟨rfl, rfl⟩ := trodVars_none hV
  obtain ⟨a0, rfl, rfl, rfl, w0⟩ := open_int Tryd.underlying5 (hval 0 5 v0 rfl rfl) h0
  obtain ⟨a1, rfl, rfl, rfl, w1⟩ := open_int Tryd.underlying3 (hval 1 3 v1 rfl rfl) h1
  clear hA0
  simp only [List.append_nil] at hW'
  refine (EasterNextYear_walk a0 a1 (wf_bounds8 w0) (wf_bounds w1) W (tab_of hL)).mono fun e W' ⟨he, hg⟩ => ?_
  subst he
  exact ⟨_, rfl, post_of_kept (pa := []) (pv := []) hW' (fun _ _ _ => (trodAll_cons_mk (shut_bool Tryd.underlying4 _) trodAll_mk0)) (fun sp _ => (trodAll_cons_mk (shut_int Tryd.underlying5 w0) (trodAll_cons_mk (shut_int Tryd.underlying3 w1) trodAll_mk0))) (fun _ _ => rfl) rfl
    hg (ok_one (by kernel_rfl) rfl (okWide_bool_mk Tryd.underlying4 _))⟩
theorem EasterNextYear_laid (os : Os) : laidMet Tryd.prog Rows.easterNextYearRow.laid ((laidWorld os).forCall (fun _ _ => 0) ⟨#[], #[.int .u8 0, .int .i64 0], []⟩).memory :=
  laidMet_of_run' 8 (by kernel_rfl) (by kernel_rfl)
theorem EasterNextYear_reads (os : Os) {H : Type} (enc : TypeId × Value → H) : ∃ places, DataW.whole enc Tryd.prog ((laidWorld os).forCall (fun _ _ => 0) ⟨#[], #[.int .u8 0, .int .i64 0], []⟩).memory Tryd.f11.params.toList Rows.easterNextYearSpec.vars false (#[.int .u8 0, .int .i64 0] : Array Value).toList 8 = some ([.lit (.int .u8 0), .lit (.int .i64 0)], [], places) :=
  ⟨[], by kernel_rfl⟩
set_option maxRecDepth 100000 in
theorem EasterNextYear_lifted (os : Os) (started : os.Started) (H : Type) (enc : TypeId × Value → H) (F : Stop.Interp) :
    ReturnsInHanded {} Tryd.checked os 11 .any ((OpenSpec.ofChange Rows.easterNextYearSpec).preRow enc Tryd.prog Tryd.f11 Rows.easterNextYearRow.domain false Rows.easterNextYearRow.laid) (((OpenSpec.ofChange Rows.easterNextYearSpec).at F).post enc Tryd.prog Tryd.f11 false true false false) := by
  obtain ⟨places, hx⟩ := EasterNextYear_reads os enc
  refine returnsInHanded_of_row (C := Tryd.checked) (s := OpenSpec.ofChange Rows.easterNextYearSpec) own_knob started (by kernel_rfl) Tryd.func11
    (witness_row_at (enc := enc) (C := Tryd.checked) false (laidWorld os) #[.int .u8 0, .int .i64 0] rfl (by kernel_rfl) (by kernel_rfl) (by kernel_rfl)
      (OpenSpec.preRow_of_cond 8 hx (by kernel_rfl) (fun k hk => by cases hk) (by kernel_rfl) (EasterNextYear_laid os))) ?_
  intro W base args ds gs before hval hW _ _ _ hL _ _
  exact EasterNextYear_contract H enc W base args ds gs before hval hW hL
theorem EasterNextYear_closed : joinedFacts Tryd.pinned.checked.prog 11 Tryd.f11 (OpenSpec.ofChange Rows.easterNextYearSpec).bare Rows.easterNextYearRow = true := by
  unfold joinedFacts
  simp only [Bool.and_eq_true]
  repeat' apply And.intro
  all_goals (first | with_reducible exact head_enter | (rw [head_make]; rfl) | (rw [head_final]; rfl) | (as_aux_lemma => kernel_rfl))
theorem EasterNextYear_said : Rows.EasterNextYearSaid :=
  OpenClaim.holds_of_cond 11 Tryd.f11 rfl rfl rfl rfl rfl rfl rfl ⟨rfl, rfl, rfl, rfl, rfl⟩ rfl rfl rfl rfl rfl (by kernel_rfl) Tryd.func11 EasterNextYear_closed
    (of_decide_eq_true (by kernel_rfl)) (by unfold Func.isWrapper; first | (rw [if_pos (by decide +kernel)]; kernel_rfl) | (rw [if_neg (by decide +kernel)]; exact ⟨rfl, rfl⟩))
    (fun os started H enc _ F => by rw [OpenClaim.pre_eq_preRow]; exact EasterNextYear_lifted os started H enc F)
theorem EasterNextYear_plain (f : FuncId) (fn : Func) (hf : Tryd.pinned.checked.prog.funcNamed "computus/computuslaw10.EasterNextYear" = some f) (hfn : Tryd.pinned.checked.prog.funcs[f]? = some fn) :
    false = Tryd.pinned.checked.prog.looks [] ∧ ∀ (j : Nat) t, fn.params[j]? = some t → Tryd.pinned.checked.prog.wantsStandIn t = false := by
  obtain rfl : f = 11 := Option.some.inj ((show Tryd.prog.funcNamed "computus/computuslaw10.EasterNextYear" = some 11 by kernel_rfl).symm.trans hf) |>.symm
  obtain rfl : fn = Tryd.f11 := (Option.some.inj (Tryd.func11.symm.trans hfn)).symm
  refine ⟨by kernel_rfl, fun j t ht => ?_⟩
  rw [Tryd.params11] at ht
  have hm : t ∈ [5, 3] := by simpa using Array.mem_of_getElem? ht
  have hall : ([5, 3].all fun u => !Tryd.prog.wantsStandIn u) = true := by kernel_rfl
  exact (show Tryd.prog.wantsStandIn t = false by simpa using List.all_eq_true.1 hall t hm)
theorem EasterNextYear_proved : Rows.EasterNextYearCardSaid :=
  Claim7.holds_tied_plain_at .later [] _ _ _ _ EasterNextYear_said (fun _ h => by cases h) (by kernel_rfl) (fun _ h => by cases h) easterNextYear_row_tie rfl ⟨rfl, rfl⟩ (mainIs_of io_list (by kernel_rfl)) rfl EasterNextYear_plain (by kernel_rfl)
#print axioms EasterNextYear_proved
end Go.Proofs.YtliomdnglhjfaaaDoor

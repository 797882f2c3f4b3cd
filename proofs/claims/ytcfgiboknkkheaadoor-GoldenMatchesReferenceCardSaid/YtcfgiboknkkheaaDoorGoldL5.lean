/- 'Rows.GoldenMatchesReferenceCardSaid': for every year and calendar, all functions of package golden return what the reference returns. No condition but that julian.lengths lies as the program's text lays it, which the card ties. -/
import Derived.Test.YtcfgiboknkkheaaDoorGoldRef
import Derived.Lib.SmallJoins
set_option linter.unusedSimpArgs false
set_option linter.unusedVariables false
set_option linter.unusedSectionVars false
namespace Go.Proofs.YtcfgiboknkkheaaDoor
open Go.ChangeShapes Go.WideShapes Go.ChangeAt Go.RowKit Go.Joins
set_option maxHeartbeats 2000000

theorem GoldenMatchesReference_walk (y c : Int) (_by : -9223372036854775808 ≤ y ∧ y ≤ 9223372036854775807) (_bc : -9223372036854775808 ≤ c ∧ c ≤ 9223372036854775807) (w : World) (hT : Tab w) :
    Calls Tryd.prog 11 #[.int .i64 y, .int .i64 c] w fun e w' => e = .returned (.bool true) ∧ Kept w w' := by
  have KT := Lib.hid (fun w' (k : Kept w w') => hT.kept k)
  clear hT
  by_cases h0 : y < 1 ∨ 1000000000 < y
  · have h3 : y < 1583 ∨ 1000000000 < y := by omega
    go_enter Tryd.func11, Tryd.ntmps11
    go_wp2_with fail
    (go_at_call 22; refine (Gold_awake _ (KT.out _ (by repeat (first | with_reducible exact Kept.refl _ | with_reducible assumption | with_reducible refine Kept.drew ?_ | with_reducible refine Kept.drewN ?_ _ | with_reducible refine Kept.alloc ?_ _ | (with_reducible refine Kept.setCell ?_ (by first | exact Nat.le_refl _ | omega | (simp; done) | (simp; omega)) _) | (with_reducible refine Kept.trans ?_ (by with_reducible assumption)))))).mono ?_; rintro e w1 ⟨rfl, hk1⟩)
    go_wp2_with fail
    (go_at_call 23; refine (Golden_no _ _ h0).mono ?_; rintro e w2 ⟨rfl, hk2⟩)
    go_wp2_with fail
    (go_at_call 33; refine (Century_no _ _ h0).mono ?_; rintro e w3 ⟨rfl, hk3⟩)
    go_wp2_with fail
    (go_at_call 24; refine (Solar_no _ _ h3).mono ?_; rintro e w4 ⟨rfl, hk4⟩)
    go_wp2_with fail
    (go_at_call 25; refine (Lunar_no _ _ h3).mono ?_; rintro e w5 ⟨rfl, hk5⟩)
    go_wp2_with fail
    (go_at_call 27; refine (Letters_all _ _ _ (KT.out _ (by repeat (first | with_reducible exact Kept.refl _ | with_reducible assumption | with_reducible refine Kept.drew ?_ | with_reducible refine Kept.drewN ?_ _ | with_reducible refine Kept.alloc ?_ _ | (with_reducible refine Kept.setCell ?_ (by first | exact Nat.le_refl _ | omega | (simp; done) | (simp; omega)) _) | (with_reducible refine Kept.trans ?_ (by with_reducible assumption)))))).mono ?_; rintro e w6 ⟨rfl, hk6⟩)
    go_wp2_with fail
    (go_at_call 34; refine (rLetters_all _ _ _).mono ?_; rintro e w7 ⟨rfl, hk7⟩)
    go_wp2_with fail
    (go_at_call 30; refine (In_no _ _ h0).mono ?_; rintro e w1 ⟨rfl, rfl⟩)
    go_wp2_with fail
    (go_at_call 35; refine (InG_no _ _ h3).mono ?_; rintro e w1 ⟨rfl, rfl⟩)
    go_wp2_with (first | (go_at_call 36; go_in))
    go_ret
    exact ⟨by first | rfl | (simp; done), (by repeat (first | with_reducible exact Kept.refl _ | with_reducible assumption | with_reducible refine Kept.drew ?_ | with_reducible refine Kept.drewN ?_ _ | with_reducible refine Kept.alloc ?_ _ | (with_reducible refine Kept.setCell ?_ (by first | exact Nat.le_refl _ | omega | (simp; done) | (simp; omega)) _) | (with_reducible refine Kept.trans ?_ (by with_reducible assumption))))⟩
  have h1 : 1 ≤ y := by omega
  have h2 : y ≤ 1000000000 := by omega
  clear h0
  by_cases h4 : y < 1583
  · have h3 : y < 1583 ∨ 1000000000 < y := by omega
    go_enter Tryd.func11, Tryd.ntmps11
    go_wp2_with fail
    (go_at_call 22; refine (Gold_awake _ (KT.out _ (by repeat (first | with_reducible exact Kept.refl _ | with_reducible assumption | with_reducible refine Kept.drew ?_ | with_reducible refine Kept.drewN ?_ _ | with_reducible refine Kept.alloc ?_ _ | (with_reducible refine Kept.setCell ?_ (by first | exact Nat.le_refl _ | omega | (simp; done) | (simp; omega)) _) | (with_reducible refine Kept.trans ?_ (by with_reducible assumption)))))).mono ?_; rintro e w1 ⟨rfl, hk1⟩)
    go_wp2_with fail
    (go_at_call 23; refine (Golden_ok _ _ h1 h2).mono ?_; rintro e w2 ⟨rfl, hk2⟩)
    go_wp2_with fail
    (go_at_call 33; refine (Century_ok _ _ h1 h2).mono ?_; rintro e w3 ⟨rfl, hk3⟩)
    go_wp2_with fail
    (go_at_call 24; refine (Solar_no _ _ h3).mono ?_; rintro e w4 ⟨rfl, hk4⟩)
    go_wp2_with fail
    (go_at_call 25; refine (Lunar_no _ _ h3).mono ?_; rintro e w5 ⟨rfl, hk5⟩)
    go_wp2_with fail
    (go_at_call 27; refine (Letters_all _ _ _ (KT.out _ (by repeat (first | with_reducible exact Kept.refl _ | with_reducible assumption | with_reducible refine Kept.drew ?_ | with_reducible refine Kept.drewN ?_ _ | with_reducible refine Kept.alloc ?_ _ | (with_reducible refine Kept.setCell ?_ (by first | exact Nat.le_refl _ | omega | (simp; done) | (simp; omega)) _) | (with_reducible refine Kept.trans ?_ (by with_reducible assumption)))))).mono ?_; rintro e w6 ⟨rfl, hk6⟩)
    go_wp2_with fail
    (go_at_call 34; refine (rLetters_all _ _ _).mono ?_; rintro e w7 ⟨rfl, hk7⟩)
    go_wp2_with fail
    (go_at_call 30; refine (In_yes _ _ h1 h2).mono ?_; rintro e w1 ⟨rfl, rfl⟩)
    go_wp2_with fail
    (go_at_call 35; refine (InG_no _ _ h3).mono ?_; rintro e w1 ⟨rfl, rfl⟩)
    go_wp2_with (first | (go_at_call 36; go_in) | (go_at_call 37; refine (rGolden_ok _ _ h1 h2).mono ?_; rintro e w1 ⟨rfl, rfl⟩) | (go_at_call 38; refine (rCentury_ok _ _ h1 h2).mono ?_; rintro e w1 ⟨rfl, rfl⟩) | (go_at_call 39; refine (rSolar_ok _ _ h1 h2).mono ?_; rintro e w1 ⟨rfl, rfl⟩) | (go_at_call 40; refine (rLunar_ok _ _ h1 h2).mono ?_; rintro e w1 ⟨rfl, rfl⟩))
    go_ret
    exact ⟨by first | rfl | (simp; done), (by repeat (first | with_reducible exact Kept.refl _ | with_reducible assumption | with_reducible refine Kept.drew ?_ | with_reducible refine Kept.drewN ?_ _ | with_reducible refine Kept.alloc ?_ _ | (with_reducible refine Kept.setCell ?_ (by first | exact Nat.le_refl _ | omega | (simp; done) | (simp; omega)) _) | (with_reducible refine Kept.trans ?_ (by with_reducible assumption))))⟩
  · have h5 : 1583 ≤ y := by omega
    clear h4
    go_enter Tryd.func11, Tryd.ntmps11
    go_wp2_with fail
    (go_at_call 22; refine (Gold_awake _ (KT.out _ (by repeat (first | with_reducible exact Kept.refl _ | with_reducible assumption | with_reducible refine Kept.drew ?_ | with_reducible refine Kept.drewN ?_ _ | with_reducible refine Kept.alloc ?_ _ | (with_reducible refine Kept.setCell ?_ (by first | exact Nat.le_refl _ | omega | (simp; done) | (simp; omega)) _) | (with_reducible refine Kept.trans ?_ (by with_reducible assumption)))))).mono ?_; rintro e w1 ⟨rfl, hk1⟩)
    go_wp2_with fail
    (go_at_call 23; refine (Golden_ok _ _ h1 h2).mono ?_; rintro e w2 ⟨rfl, hk2⟩)
    go_wp2_with fail
    (go_at_call 33; refine (Century_ok _ _ h1 h2).mono ?_; rintro e w3 ⟨rfl, hk3⟩)
    go_wp2_with fail
    (go_at_call 24; refine (Solar_ok _ _ h5 h2).mono ?_; rintro e w4 ⟨rfl, hk4⟩)
    go_wp2_with fail
    (go_at_call 25; refine (Lunar_ok _ _ h5 h2).mono ?_; rintro e w5 ⟨rfl, hk5⟩)
    go_wp2_with fail
    (go_at_call 27; refine (Letters_all _ _ _ (KT.out _ (by repeat (first | with_reducible exact Kept.refl _ | with_reducible assumption | with_reducible refine Kept.drew ?_ | with_reducible refine Kept.drewN ?_ _ | with_reducible refine Kept.alloc ?_ _ | (with_reducible refine Kept.setCell ?_ (by first | exact Nat.le_refl _ | omega | (simp; done) | (simp; omega)) _) | (with_reducible refine Kept.trans ?_ (by with_reducible assumption)))))).mono ?_; rintro e w6 ⟨rfl, hk6⟩)
    go_wp2_with fail
    (go_at_call 34; refine (rLetters_all _ _ _).mono ?_; rintro e w7 ⟨rfl, hk7⟩)
    go_wp2_with fail
    (go_at_call 30; refine (In_yes _ _ h1 h2).mono ?_; rintro e w1 ⟨rfl, rfl⟩)
    go_wp2_with fail
    (go_at_call 35; refine (InG_yes _ _ h5 h2).mono ?_; rintro e w1 ⟨rfl, rfl⟩)
    go_wp2_with (first | (go_at_call 36; go_in) | (go_at_call 37; refine (rGolden_ok _ _ h1 h2).mono ?_; rintro e w1 ⟨rfl, rfl⟩) | (go_at_call 38; refine (rCentury_ok _ _ h1 h2).mono ?_; rintro e w1 ⟨rfl, rfl⟩) | (go_at_call 39; refine (rSolar_ok _ _ h1 h2).mono ?_; rintro e w1 ⟨rfl, rfl⟩) | (go_at_call 40; refine (rLunar_ok _ _ h1 h2).mono ?_; rintro e w1 ⟨rfl, rfl⟩))
    go_ret
    exact ⟨by first | rfl | (simp; done), (by repeat (first | with_reducible exact Kept.refl _ | with_reducible assumption | with_reducible refine Kept.drew ?_ | with_reducible refine Kept.drewN ?_ _ | with_reducible refine Kept.alloc ?_ _ | (with_reducible refine Kept.setCell ?_ (by first | exact Nat.le_refl _ | omega | (simp; done) | (simp; omega)) _) | (with_reducible refine Kept.trans ?_ (by with_reducible assumption))))⟩

set_option maxRecDepth 100000 in
theorem GoldenMatchesReference_contract (H : Type) (enc : TypeId × Value → H) (W : World) (base : Nat) (args : Array Value) (ds gs : List (DataW H)) (before : List MemPlace)
    (hval : ∀ (j : Nat) t v, Tryd.f11.params[j]? = some t → args[j]? = some v → Value.okWide Tryd.prog W .any base t v)
    (hW : DataW.Whole enc Tryd.prog Tryd.f11.params.toList Rows.goldenMatchesReferenceSpec.vars false W args.toList ds gs before) (hL : laidMetH Tryd.prog Rows.goldenMatchesReferenceRow.laid W) :
    Calls Tryd.prog 11 args W fun e W' => ∃ v, e = .returned v ∧ Rows.goldenMatchesReferenceSpec.post enc Tryd.prog Tryd.f11 false true false false W args v W' := by
  have hW' := hW
  obtain ⟨p, q, hA0, hV, rfl, hfz, hnd⟩ := hW
  have hA : DataW.TrodAll enc Tryd.prog W 0 (fun _ => true) true Tryd.f11.params.toList args.toList ds p := hA0
  rw [Tryd.params11] at hA hval
  obtain ⟨v0, vs0, d0, ds0, p0, q0, hargs, rfl, rfl, h0, r0⟩ := trodAll_cons hA
  obtain ⟨v1, vs1, d1, ds1, p1, q1, rfl, rfl, rfl, h1, r1⟩ := trodAll_cons r0
  obtain ⟨rfl, rfl, rfl⟩ := trodAll_nil r1
  obtain rfl : args = #[v0, v1] := by cases args; simp_all
  obtain ⟨rfl, rfl⟩ := trodVars_none hV
  obtain ⟨a0, rfl, rfl, rfl, w0⟩ := open_int Tryd.underlying3 (hval 0 3 v0 rfl rfl) h0
  obtain ⟨a1, rfl, rfl, rfl, w1⟩ := open_int Tryd.underlying3 (hval 1 3 v1 rfl rfl) h1
  clear hA0
  simp only [List.append_nil] at hW'
  refine (GoldenMatchesReference_walk a0 a1 (wf_bounds w0) (wf_bounds w1) W (tab_of hL)).mono fun e W' ⟨he, hg⟩ => ?_
  subst he
  exact ⟨_, rfl, post_of_kept (pa := []) (pv := []) hW' (fun _ _ _ => (trodAll_cons_mk (shut_bool Tryd.underlying4 _) trodAll_mk0)) (fun sp _ => (trodAll_cons_mk (shut_int Tryd.underlying3 w0) (trodAll_cons_mk (shut_int Tryd.underlying3 w1) trodAll_mk0))) (fun _ _ => rfl) rfl
    hg (ok_one (by kernel_rfl) rfl (okWide_bool_mk Tryd.underlying4 _))⟩
theorem GoldenMatchesReference_laid (os : Os) : laidMet Tryd.prog Rows.goldenMatchesReferenceRow.laid ((laidWorld os).forCall (fun _ _ => 0) ⟨#[], #[.int .i64 0, .int .i64 0], []⟩).memory :=
  laidMet_of_run' 8 (by kernel_rfl) (by kernel_rfl)
theorem GoldenMatchesReference_reads (os : Os) {H : Type} (enc : TypeId × Value → H) : ∃ places, DataW.whole enc Tryd.prog ((laidWorld os).forCall (fun _ _ => 0) ⟨#[], #[.int .i64 0, .int .i64 0], []⟩).memory Tryd.f11.params.toList Rows.goldenMatchesReferenceSpec.vars false (#[.int .i64 0, .int .i64 0] : Array Value).toList 8 = some ([.lit (.int .i64 0), .lit (.int .i64 0)], [], places) :=
  ⟨[], by kernel_rfl⟩
set_option maxRecDepth 100000 in
theorem GoldenMatchesReference_lifted (os : Os) (started : os.Started) (H : Type) (enc : TypeId × Value → H) (F : Stop.Interp) :
    ReturnsInHanded {} Tryd.checked os 11 .any ((OpenSpec.ofChange Rows.goldenMatchesReferenceSpec).preRow enc Tryd.prog Tryd.f11 Rows.goldenMatchesReferenceRow.domain false Rows.goldenMatchesReferenceRow.laid) (((OpenSpec.ofChange Rows.goldenMatchesReferenceSpec).at F).post enc Tryd.prog Tryd.f11 false true false false) := by
  obtain ⟨places, hx⟩ := GoldenMatchesReference_reads os enc
  refine returnsInHanded_of_row (C := Tryd.checked) (s := OpenSpec.ofChange Rows.goldenMatchesReferenceSpec) own_knob started (by kernel_rfl) Tryd.func11
    (witness_row_at (enc := enc) (C := Tryd.checked) false (laidWorld os) #[.int .i64 0, .int .i64 0] rfl (by kernel_rfl) (by kernel_rfl) (by kernel_rfl)
      (OpenSpec.preRow_of_cond 8 hx (by kernel_rfl) (fun k hk => by cases hk) (by kernel_rfl) (GoldenMatchesReference_laid os))) ?_
  intro W base args ds gs before hval hW _ _ _ hL _ _
  exact GoldenMatchesReference_contract H enc W base args ds gs before hval hW hL
theorem GoldenMatchesReference_said : Rows.GoldenMatchesReferenceSaid :=
  OpenClaim.holds_of_cond 11 Tryd.f11 rfl rfl rfl rfl rfl rfl rfl ⟨rfl, rfl, rfl, rfl, rfl⟩ rfl rfl rfl rfl rfl (by kernel_rfl) Tryd.func11 (by kernel_rfl)
    (of_decide_eq_true (by kernel_rfl)) (by unfold Func.isWrapper; first | (rw [if_pos (by decide +kernel)]; kernel_rfl) | (rw [if_neg (by decide +kernel)]; exact ⟨rfl, rfl⟩))
    (fun os started H enc _ F => by rw [OpenClaim.pre_eq_preRow]; exact GoldenMatchesReference_lifted os started H enc F)
theorem GoldenMatchesReference_plain (f : FuncId) (fn : Func) (hf : Tryd.pinned.checked.prog.funcNamed "computus/computuslaw06.GoldenMatchesReference" = some f) (hfn : Tryd.pinned.checked.prog.funcs[f]? = some fn) :
    false = Tryd.pinned.checked.prog.looks [] ∧ ∀ (j : Nat) t, fn.params[j]? = some t → Tryd.pinned.checked.prog.wantsStandIn t = false := by
  obtain rfl : f = 11 := Option.some.inj ((show Tryd.prog.funcNamed "computus/computuslaw06.GoldenMatchesReference" = some 11 by kernel_rfl).symm.trans hf) |>.symm
  obtain rfl : fn = Tryd.f11 := (Option.some.inj (Tryd.func11.symm.trans hfn)).symm
  refine ⟨by kernel_rfl, fun j t ht => ?_⟩
  rw [Tryd.params11] at ht
  have hm : t ∈ [3, 3] := by simpa using Array.mem_of_getElem? ht
  have hall : ([3, 3].all fun u => !Tryd.prog.wantsStandIn u) = true := by kernel_rfl
  exact (show Tryd.prog.wantsStandIn t = false by simpa using List.all_eq_true.1 hall t hm)
theorem GoldenMatchesReference_proved : Rows.GoldenMatchesReferenceCardSaid :=
  Claim7.holds_tied_plain_at .later [] _ _ _ _ GoldenMatchesReference_said (fun _ h => by cases h) (by kernel_rfl) (fun _ h => by cases h) goldenMatchesReference_row_tie rfl ⟨rfl, rfl⟩ (by kernel_rfl) rfl GoldenMatchesReference_plain (by kernel_rfl)
#print axioms GoldenMatchesReference_proved
end Go.Proofs.YtcfgiboknkkheaaDoor

/- 'Rows.GoldenCorrectionsCardSaid': for every year, within a century the corrections are constant; from one to the next they grow by 0 or 1. No condition but that julian.lengths lies as the program's text lays it, which the card ties. -/
import Derived.Test.YtcfgiboknkkheaaDoorGoldRef
import Derived.Lib.SmallJoins
set_option linter.unusedSimpArgs false
set_option linter.unusedVariables false
set_option linter.unusedSectionVars false
namespace Go.Proofs.YtcfgiboknkkheaaDoor
open Go.ChangeShapes Go.WideShapes Go.ChangeAt Go.RowKit Go.Joins
set_option maxHeartbeats 2000000

theorem cor_facts (y : Int) : (lp 2 (y / 100 * 100 + 100) = true ∧ soN (y / 100 * 100 + 100) = soN y ∧ soN (y / 100 * 100 + 199) = soN y ∨ lp 2 (y / 100 * 100 + 100) = false ∧ soN (y / 100 * 100 + 100) = soN y + 1 ∧ soN (y / 100 * 100 + 199) = soN y + 1) ∧
    (luN (y / 100 * 100 + 100) = luN y ∧ luN (y / 100 * 100 + 199) = luN y ∨ luN (y / 100 * 100 + 100) = luN y + 1 ∧ luN (y / 100 * 100 + 199) = luN y + 1) := by
  have e1 : (y / 100 * 100 + 100) / 100 = y / 100 + 1 := by omega
  have e2 : (y / 100 * 100 + 199) / 100 = y / 100 + 1 := by omega
  constructor
  · rw [lp_true]
    unfold soN
    rw [e1, e2]
    have hu : (y / 100 + 1) % 4 = 0 ∨ (y / 100 + 1) % 4 = 1 ∨ (y / 100 + 1) % 4 = 2 ∨ (y / 100 + 1) % 4 = 3 := by omega
    rcases hu with hu | hu | hu | hu
    · exact .inl ⟨decide_eq_true (by omega), by omega, by omega⟩
    · exact .inr ⟨decide_eq_false (by omega), by omega, by omega⟩
    · exact .inr ⟨decide_eq_false (by omega), by omega, by omega⟩
    · exact .inr ⟨decide_eq_false (by omega), by omega, by omega⟩
  · unfold luN
    rw [e1, e2]
    omega
theorem cor_bounds (y : Int) (h : 1583 ≤ y) (h' : y ≤ 1000000000) : -100 ≤ soN y ∧ soN y ≤ 100000000 ∧ -100 ≤ luN y ∧ luN y ≤ 100000000 := by unfold soN luN; omega
theorem GoldenCorrections_walk (y : Int) (_by : -9223372036854775808 ≤ y ∧ y ≤ 9223372036854775807) (w : World) (hT : Tab w) :
    Calls Tryd.prog 7 #[.int .i64 y] w fun e w' => e = .returned (.bool true) ∧ Kept w w' := by
  have KT := Lib.hid (fun w' (k : Kept w w') => hT.kept k)
  clear hT
  by_cases h1 : y < 1583
  · go_enter Tryd.func7, Tryd.ntmps7
    go_wp2_with fail
    (go_at_call 22; refine (Gold_awake _ (KT.out _ (by repeat (first | with_reducible exact Kept.refl _ | with_reducible assumption | with_reducible refine Kept.drew ?_ | with_reducible refine Kept.drewN ?_ _ | with_reducible refine Kept.alloc ?_ _ | (with_reducible refine Kept.setCell ?_ (by first | exact Nat.le_refl _ | omega | (simp; done) | (simp; omega)) _) | (with_reducible refine Kept.trans ?_ (by with_reducible assumption)))))).mono ?_; rintro e w1 ⟨rfl, hk1⟩)
    go_wp2_with fail
    (go_at_call 22; refine (Gold_awake _ (KT.out _ (by repeat (first | with_reducible exact Kept.refl _ | with_reducible assumption | with_reducible refine Kept.drew ?_ | with_reducible refine Kept.drewN ?_ _ | with_reducible refine Kept.alloc ?_ _ | (with_reducible refine Kept.setCell ?_ (by first | exact Nat.le_refl _ | omega | (simp; done) | (simp; omega)) _) | (with_reducible refine Kept.trans ?_ (by with_reducible assumption)))))).mono ?_; rintro e w2 ⟨rfl, hk2⟩)
    go_wp2
    go_ret
    exact ⟨rfl, (by repeat (first | with_reducible exact Kept.refl _ | with_reducible assumption | with_reducible refine Kept.drew ?_ | with_reducible refine Kept.drewN ?_ _ | with_reducible refine Kept.alloc ?_ _ | (with_reducible refine Kept.setCell ?_ (by first | exact Nat.le_refl _ | omega | (simp; done) | (simp; omega)) _) | (with_reducible refine Kept.trans ?_ (by with_reducible assumption))))⟩
  by_cases h2 : 999999800 < y
  · go_enter Tryd.func7, Tryd.ntmps7
    go_wp2_with fail
    (go_at_call 22; refine (Gold_awake _ (KT.out _ (by repeat (first | with_reducible exact Kept.refl _ | with_reducible assumption | with_reducible refine Kept.drew ?_ | with_reducible refine Kept.drewN ?_ _ | with_reducible refine Kept.alloc ?_ _ | (with_reducible refine Kept.setCell ?_ (by first | exact Nat.le_refl _ | omega | (simp; done) | (simp; omega)) _) | (with_reducible refine Kept.trans ?_ (by with_reducible assumption)))))).mono ?_; rintro e w1 ⟨rfl, hk1⟩)
    go_wp2_with fail
    (go_at_call 22; refine (Gold_awake _ (KT.out _ (by repeat (first | with_reducible exact Kept.refl _ | with_reducible assumption | with_reducible refine Kept.drew ?_ | with_reducible refine Kept.drewN ?_ _ | with_reducible refine Kept.alloc ?_ _ | (with_reducible refine Kept.setCell ?_ (by first | exact Nat.le_refl _ | omega | (simp; done) | (simp; omega)) _) | (with_reducible refine Kept.trans ?_ (by with_reducible assumption)))))).mono ?_; rintro e w2 ⟨rfl, hk2⟩)
    go_wp2
    go_ret
    exact ⟨rfl, (by repeat (first | with_reducible exact Kept.refl _ | with_reducible assumption | with_reducible refine Kept.drew ?_ | with_reducible refine Kept.drewN ?_ _ | with_reducible refine Kept.alloc ?_ _ | (with_reducible refine Kept.setCell ?_ (by first | exact Nat.le_refl _ | omega | (simp; done) | (simp; omega)) _) | (with_reducible refine Kept.trans ?_ (by with_reducible assumption))))⟩
  obtain ⟨q1, q2, q3, q4⟩ := cor_bounds y (by omega) (by omega)
  have KA := Lib.hid (fun w => Solar_ok y w (by omega) (by omega))
  have KB := Lib.hid (fun w => Solar_ok (y / 100 * 100 + 100) w (by omega) (by omega))
  have KC := Lib.hid (fun w => Lunar_ok y w (by omega) (by omega))
  have KD := Lib.hid (fun w => Lunar_ok (y / 100 * 100 + 100) w (by omega) (by omega))
  have KE := Lib.hid (fun w => Solar_ok (y / 100 * 100 + 199) w (by omega) (by omega))
  have KF := Lib.hid (fun w => Lunar_ok (y / 100 * 100 + 199) w (by omega) (by omega))
  have KL := Lib.hid (fun w => refLeap_any 2 (y / 100 * 100 + 100) w (by omega) (by omega))
  obtain ⟨f1, f2⟩ := cor_facts y
  rcases f1 with ⟨a, b, c⟩ | ⟨a, b, c⟩ <;> rcases f2 with ⟨d, e⟩ | ⟨d, e⟩
  all_goals
    rw [a] at KL
    rw [b] at KB
    rw [c] at KE
    rw [d] at KD
    rw [e] at KF
    clear a b c d e
    generalize soN y = sn at *
    generalize luN y = ln at *
    go_enter Tryd.func7, Tryd.ntmps7
    go_wp2_with fail
    (go_at_call 22; refine (Gold_awake _ (KT.out _ (by repeat (first | with_reducible exact Kept.refl _ | with_reducible assumption | with_reducible refine Kept.drew ?_ | with_reducible refine Kept.drewN ?_ _ | with_reducible refine Kept.alloc ?_ _ | (with_reducible refine Kept.setCell ?_ (by first | exact Nat.le_refl _ | omega | (simp; done) | (simp; omega)) _) | (with_reducible refine Kept.trans ?_ (by with_reducible assumption)))))).mono ?_; rintro e w1 ⟨rfl, hk1⟩)
    go_wp2_with fail
    (go_at_call 24; refine (KA.out _).mono ?_; rintro e w2 ⟨rfl, hk2⟩)
    go_wp2_with fail
    (go_at_call 24; refine (KB.out _).mono ?_; rintro e w3 ⟨rfl, hk3⟩)
    go_wp2_with fail
    (go_at_call 25; refine (KC.out _).mono ?_; rintro e w4 ⟨rfl, hk4⟩)
    go_wp2_with fail
    (go_at_call 25; refine (KD.out _).mono ?_; rintro e w5 ⟨rfl, hk5⟩)
    go_wp2_with fail
    (go_at_call 24; refine (KE.out _).mono ?_; rintro e w6 ⟨rfl, hk6⟩)
    go_wp2_with fail
    (go_at_call 25; refine (KF.out _).mono ?_; rintro e w7 ⟨rfl, hk7⟩)
    go_wp2_with fail
    (go_at_call 21; refine (KL.out _).mono ?_; rintro e w1 ⟨rfl, rfl⟩)
    go_wp2
    go_ret
    exact ⟨by first | rfl | (simp; done) | (simp; omega), (by repeat (first | with_reducible exact Kept.refl _ | with_reducible assumption | with_reducible refine Kept.drew ?_ | with_reducible refine Kept.drewN ?_ _ | with_reducible refine Kept.alloc ?_ _ | (with_reducible refine Kept.setCell ?_ (by first | exact Nat.le_refl _ | omega | (simp; done) | (simp; omega)) _) | (with_reducible refine Kept.trans ?_ (by with_reducible assumption))))⟩

set_option maxRecDepth 100000 in
theorem GoldenCorrections_contract (H : Type) (enc : TypeId × Value → H) (W : World) (base : Nat) (args : Array Value) (ds gs : List (DataW H)) (before : List MemPlace)
    (hval : ∀ (j : Nat) t v, Tryd.f7.params[j]? = some t → args[j]? = some v → Value.okWide Tryd.prog W .any base t v)
    (hW : DataW.Whole enc Tryd.prog Tryd.f7.params.toList Rows.goldenCorrectionsSpec.vars false W args.toList ds gs before) (hL : laidMetH Tryd.prog Rows.goldenCorrectionsRow.laid W) :
    Calls Tryd.prog 7 args W fun e W' => ∃ v, e = .returned v ∧ Rows.goldenCorrectionsSpec.post enc Tryd.prog Tryd.f7 false true false false W args v W' := by
  have hW' := hW
  obtain ⟨p, q, hA0, hV, rfl, hfz, hnd⟩ := hW
  have hA : DataW.TrodAll enc Tryd.prog W 0 (fun _ => true) true Tryd.f7.params.toList args.toList ds p := hA0
  rw [Tryd.params7] at hA hval
  obtain ⟨v0, vs0, d0, ds0, p0, q0, hargs, rfl, rfl, h0, r0⟩ := trodAll_cons hA
  obtain ⟨rfl, rfl, rfl⟩ := trodAll_nil r0
  obtain rfl : args = #[v0] := by cases args; simp_all
  obtain ⟨rfl, rfl⟩ := trodVars_none hV
  obtain ⟨a0, rfl, rfl, rfl, w0⟩ := open_int Tryd.underlying3 (hval 0 3 v0 rfl rfl) h0
  clear hA0
  simp only [List.append_nil] at hW'
  refine (GoldenCorrections_walk a0 (wf_bounds w0) W (tab_of hL)).mono fun e W' ⟨he, hg⟩ => ?_
  subst he
  exact ⟨_, rfl, post_of_kept (pa := []) (pv := []) hW' (fun _ _ _ => (trodAll_cons_mk (shut_bool Tryd.underlying4 _) trodAll_mk0)) (fun sp _ => (trodAll_cons_mk (shut_int Tryd.underlying3 w0) trodAll_mk0)) (fun _ _ => rfl) rfl
    hg (ok_one (by kernel_rfl) rfl (okWide_bool_mk Tryd.underlying4 _))⟩
theorem GoldenCorrections_laid (os : Os) : laidMet Tryd.prog Rows.goldenCorrectionsRow.laid ((laidWorld os).forCall (fun _ _ => 0) ⟨#[], #[.int .i64 0], []⟩).memory :=
  laidMet_of_run' 8 (by kernel_rfl) (by kernel_rfl)
theorem GoldenCorrections_reads (os : Os) {H : Type} (enc : TypeId × Value → H) : ∃ places, DataW.whole enc Tryd.prog ((laidWorld os).forCall (fun _ _ => 0) ⟨#[], #[.int .i64 0], []⟩).memory Tryd.f7.params.toList Rows.goldenCorrectionsSpec.vars false (#[.int .i64 0] : Array Value).toList 8 = some ([.lit (.int .i64 0)], [], places) :=
  ⟨[], by kernel_rfl⟩
set_option maxRecDepth 100000 in
theorem GoldenCorrections_lifted (os : Os) (started : os.Started) (H : Type) (enc : TypeId × Value → H) (F : Stop.Interp) :
    ReturnsInHanded {} Tryd.checked os 7 .any ((OpenSpec.ofChange Rows.goldenCorrectionsSpec).preRow enc Tryd.prog Tryd.f7 Rows.goldenCorrectionsRow.domain false Rows.goldenCorrectionsRow.laid) (((OpenSpec.ofChange Rows.goldenCorrectionsSpec).at F).post enc Tryd.prog Tryd.f7 false true false false) := by
  obtain ⟨places, hx⟩ := GoldenCorrections_reads os enc
  refine returnsInHanded_of_row (C := Tryd.checked) (s := OpenSpec.ofChange Rows.goldenCorrectionsSpec) own_knob started (by kernel_rfl) Tryd.func7
    (witness_row_at (enc := enc) (C := Tryd.checked) false (laidWorld os) #[.int .i64 0] rfl (by kernel_rfl) (by kernel_rfl) (by kernel_rfl)
      (OpenSpec.preRow_of_cond 8 hx (by kernel_rfl) (fun k hk => by cases hk) (by kernel_rfl) (GoldenCorrections_laid os))) ?_
  intro W base args ds gs before hval hW _ _ _ hL _ _
  exact GoldenCorrections_contract H enc W base args ds gs before hval hW hL
theorem GoldenCorrections_said : Rows.GoldenCorrectionsSaid :=
  OpenClaim.holds_of_cond 7 Tryd.f7 rfl rfl rfl rfl rfl rfl rfl ⟨rfl, rfl, rfl, rfl, rfl⟩ rfl rfl rfl rfl rfl (by kernel_rfl) Tryd.func7 (by kernel_rfl)
    (of_decide_eq_true (by kernel_rfl)) (by unfold Func.isWrapper; first | (rw [if_pos (by decide +kernel)]; kernel_rfl) | (rw [if_neg (by decide +kernel)]; exact ⟨rfl, rfl⟩))
    (fun os started H enc _ F => by rw [OpenClaim.pre_eq_preRow]; exact GoldenCorrections_lifted os started H enc F)
theorem GoldenCorrections_plain (f : FuncId) (fn : Func) (hf : Tryd.pinned.checked.prog.funcNamed "computus/computuslaw06.GoldenCorrections" = some f) (hfn : Tryd.pinned.checked.prog.funcs[f]? = some fn) :
    false = Tryd.pinned.checked.prog.looks [] ∧ ∀ (j : Nat) t, fn.params[j]? = some t → Tryd.pinned.checked.prog.wantsStandIn t = false := by
  obtain rfl : f = 7 := Option.some.inj ((show Tryd.prog.funcNamed "computus/computuslaw06.GoldenCorrections" = some 7 by kernel_rfl).symm.trans hf) |>.symm
  obtain rfl : fn = Tryd.f7 := (Option.some.inj (Tryd.func7.symm.trans hfn)).symm
  refine ⟨by kernel_rfl, fun j t ht => ?_⟩
  rw [Tryd.params7] at ht
  have hm : t ∈ [3] := by simpa using Array.mem_of_getElem? ht
  have hall : ([3].all fun u => !Tryd.prog.wantsStandIn u) = true := by kernel_rfl
  exact (show Tryd.prog.wantsStandIn t = false by simpa using List.all_eq_true.1 hall t hm)
theorem GoldenCorrections_proved : Rows.GoldenCorrectionsCardSaid :=
  Claim7.holds_tied_plain_at .later [] _ _ _ _ GoldenCorrections_said (fun _ h => by cases h) (by kernel_rfl) (fun _ h => by cases h) goldenCorrections_row_tie rfl ⟨rfl, rfl⟩ (by kernel_rfl) rfl GoldenCorrections_plain (by kernel_rfl)
#print axioms GoldenCorrections_proved
end Go.Proofs.YtcfgiboknkkheaaDoor

/- 'Rows.GoldenRepeatsCardSaid': for both calendars and every year, dominical letters recur after 28 years in the Julian, and after 400 years in the Gregorian calendar. No condition but that julian.lengths lies as the program's text lays it, which the card ties. -/
import Derived.Test.YtcfgiboknkkheaaDoorGoldRef
import Derived.Lib.SmallJoins
set_option linter.unusedSimpArgs false
set_option linter.unusedVariables false
set_option linter.unusedSectionVars false
namespace Go.Proofs.YtcfgiboknkkheaaDoor
open Go.ChangeShapes Go.WideShapes Go.ChangeAt Go.RowKit Go.Joins
set_option maxHeartbeats 2000000

theorem lt_range (k y : Int) (hk : IsCal k) (h1 : 1 ≤ y) (h2 : y ≤ 1000000000) : ylE k y = 0 ∧ 1 ≤ ltA k y ∧ ltA k y ≤ 7 ∧ 1 ≤ ltB k y ∧ ltB k y ≤ 7 := by
  rcases lt_cases k y with ⟨h, _⟩ | ⟨h, _, _, _, a, ⟨_, _, b⟩ | ⟨_, _, b⟩⟩
  · rcases yl_cases k y with ⟨g, _⟩ | ⟨_, g, _⟩ | ⟨_, _, _, _, g⟩
    · exact absurd hk g
    · omega
    · omega
  · refine ⟨h, ?_⟩; rw [a, b]; omega
  · refine ⟨h, ?_⟩; rw [a, b]; omega
theorem lt_again (k y n : Int) (hk : IsCal k) (h1 : 1 ≤ y) (h2 : y + n ≤ 1000000000) (hn : 0 ≤ n) (hl : lp k (y + n) = lp k y) (hf : fst k (y + n) % 7 = fst k y % 7) : ltA k (y + n) = ltA k y ∧ ltB k (y + n) = ltB k y := by
  have e1 := (lt_range k y hk h1 (by omega)).1
  have e2 := (lt_range k (y + n) hk (by omega) h2).1
  have ha : ltA k (y + n) = ltA k y := by unfold ltA; rw [if_pos e1, if_pos e2]; omega
  refine ⟨ha, ?_⟩
  unfold ltB
  rw [if_pos e1, if_pos e2, hl, ha]
theorem fst28 (y : Int) : fst 1 (y + 28) = fst 1 y + 10227 := by
  have e : (y + 28 - 1) / 4 = (y - 1) / 4 + 7 := by omega
  unfold fst; simp only [if_true]; omega
theorem fst400 (y : Int) : fst 2 (y + 400) = fst 2 y + 146097 := by
  have e1 : (y + 400 - 1) / 4 = (y - 1) / 4 + 100 := by omega
  have e2 : (y + 400 - 1) / 100 = (y - 1) / 100 + 4 := by omega
  have e3 : (y + 400 - 1) / 400 = (y - 1) / 400 + 1 := by omega
  unfold fst; simp only [show ¬ (2 : Int) = 1 from by decide, if_false]; omega
theorem again1 (y : Int) (h1 : 1 ≤ y) (h2 : y + 28 ≤ 1000000000) : ltA 1 (y + 28) = ltA 1 y ∧ ltB 1 (y + 28) = ltB 1 y :=
  lt_again 1 y 28 (.inl rfl) h1 h2 (by omega) (by unfold lp; simp only [if_true]; rw [decide_eq_decide]; omega) (by rw [fst28]; omega)
theorem again2 (y : Int) (h1 : 1 ≤ y) (h2 : y + 400 ≤ 1000000000) : ltA 2 (y + 400) = ltA 2 y ∧ ltB 2 (y + 400) = ltB 2 y :=
  lt_again 2 y 400 (.inr rfl) h1 h2 (by omega) (by unfold lp; simp only [show ¬ (2 : Int) = 1 from by decide, if_false]; rw [decide_eq_decide]; omega) (by rw [fst400]; omega)
theorem GoldenRepeats_walk (c y : Int) (_bc : 0 ≤ c ∧ c ≤ 255) (_by : -9223372036854775808 ≤ y ∧ y ≤ 9223372036854775807) (w : World) (hT : Tab w) :
    Calls Tryd.prog 9 #[.int .u8 c, .int .i64 y] w fun e w' => e = .returned (.bool true) ∧ Kept w w' := by
  obtain ⟨c1, c2⟩ := _bc
  have KT := Lib.hid (fun w' (k : Kept w w') => hT.kept k)
  clear hT
  by_cases h0 : y < 1 ∨ 1000000000 < y
  · go_enter Tryd.func9, Tryd.ntmps9
    go_wp2_with fail
    (go_at_call 22; refine (Gold_awake _ (KT.out _ (by repeat (first | with_reducible exact Kept.refl _ | with_reducible assumption | with_reducible refine Kept.drew ?_ | with_reducible refine Kept.drewN ?_ _ | with_reducible refine Kept.alloc ?_ _ | (with_reducible refine Kept.setCell ?_ (by first | exact Nat.le_refl _ | omega | (simp; done) | (simp; omega)) _) | (with_reducible refine Kept.trans ?_ (by with_reducible assumption)))))).mono ?_; rintro e w1 ⟨rfl, hk1⟩)
    go_wp2_with fail
    (go_at_call 30; refine (In_no _ _ h0).mono ?_; rintro e w1 ⟨rfl, rfl⟩)
    go_wp2_with fail
    (go_at_call 22; refine (Gold_awake _ (KT.out _ (by repeat (first | with_reducible exact Kept.refl _ | with_reducible assumption | with_reducible refine Kept.drew ?_ | with_reducible refine Kept.drewN ?_ _ | with_reducible refine Kept.alloc ?_ _ | (with_reducible refine Kept.setCell ?_ (by first | exact Nat.le_refl _ | omega | (simp; done) | (simp; omega)) _) | (with_reducible refine Kept.trans ?_ (by with_reducible assumption)))))).mono ?_; rintro e w2 ⟨rfl, hk2⟩)
    go_wp2
    go_ret
    exact ⟨rfl, (by repeat (first | with_reducible exact Kept.refl _ | with_reducible assumption | with_reducible refine Kept.drew ?_ | with_reducible refine Kept.drewN ?_ _ | with_reducible refine Kept.alloc ?_ _ | (with_reducible refine Kept.setCell ?_ (by first | exact Nat.le_refl _ | omega | (simp; done) | (simp; omega)) _) | (with_reducible refine Kept.trans ?_ (by with_reducible assumption))))⟩
  have h1 : 1 ≤ y := by omega
  have h2 : y ≤ 1000000000 := by omega
  clear h0
  by_cases h3 : 999999000 < y
  · go_enter Tryd.func9, Tryd.ntmps9
    go_wp2_with fail
    (go_at_call 22; refine (Gold_awake _ (KT.out _ (by repeat (first | with_reducible exact Kept.refl _ | with_reducible assumption | with_reducible refine Kept.drew ?_ | with_reducible refine Kept.drewN ?_ _ | with_reducible refine Kept.alloc ?_ _ | (with_reducible refine Kept.setCell ?_ (by first | exact Nat.le_refl _ | omega | (simp; done) | (simp; omega)) _) | (with_reducible refine Kept.trans ?_ (by with_reducible assumption)))))).mono ?_; rintro e w1 ⟨rfl, hk1⟩)
    go_wp2_with fail
    (go_at_call 30; refine (In_yes _ _ h1 h2).mono ?_; rintro e w1 ⟨rfl, rfl⟩)
    go_wp2_with fail
    (go_at_call 22; refine (Gold_awake _ (KT.out _ (by repeat (first | with_reducible exact Kept.refl _ | with_reducible assumption | with_reducible refine Kept.drew ?_ | with_reducible refine Kept.drewN ?_ _ | with_reducible refine Kept.alloc ?_ _ | (with_reducible refine Kept.setCell ?_ (by first | exact Nat.le_refl _ | omega | (simp; done) | (simp; omega)) _) | (with_reducible refine Kept.trans ?_ (by with_reducible assumption)))))).mono ?_; rintro e w2 ⟨rfl, hk2⟩)
    go_wp2
    go_ret
    exact ⟨rfl, (by repeat (first | with_reducible exact Kept.refl _ | with_reducible assumption | with_reducible refine Kept.drew ?_ | with_reducible refine Kept.drewN ?_ _ | with_reducible refine Kept.alloc ?_ _ | (with_reducible refine Kept.setCell ?_ (by first | exact Nat.le_refl _ | omega | (simp; done) | (simp; omega)) _) | (with_reducible refine Kept.trans ?_ (by with_reducible assumption))))⟩
  rcases (show c % 2 = 0 ∨ c % 2 = 1 by omega) with hc | hc
  · obtain ⟨r1, r2, r3, r4, r5⟩ := lt_range 1 y (.inl rfl) h1 h2
    have r6 := (lt_range 1 (y + 28) (.inl rfl) (by omega) (by omega)).1
    obtain ⟨u1, u2⟩ := again1 y h1 (by omega)
    have KA := Lib.hid (fun w hT => Letters_all 1 y w hT)
    rw [r1] at KA
    have KB := Lib.hid (fun w hT => Letters_all 1 (y + 28) w hT)
    rw [r6, u1, u2] at KB
    clear r1 r6 u1 u2
    go_enter Tryd.func9, Tryd.ntmps9
    go_wp2_with fail
    (go_at_call 22; refine (Gold_awake _ (KT.out _ (by repeat (first | with_reducible exact Kept.refl _ | with_reducible assumption | with_reducible refine Kept.drew ?_ | with_reducible refine Kept.drewN ?_ _ | with_reducible refine Kept.alloc ?_ _ | (with_reducible refine Kept.setCell ?_ (by first | exact Nat.le_refl _ | omega | (simp; done) | (simp; omega)) _) | (with_reducible refine Kept.trans ?_ (by with_reducible assumption)))))).mono ?_; rintro e w1 ⟨rfl, hk1⟩)
    go_wp2_with fail
    (go_at_call 30; refine (In_yes _ _ h1 h2).mono ?_; rintro e w1 ⟨rfl, rfl⟩)
    go_wp2_with fail
    (go_at_call 27; refine (KA.out _ (KT.out _ (by repeat (first | with_reducible exact Kept.refl _ | with_reducible assumption | with_reducible refine Kept.drew ?_ | with_reducible refine Kept.drewN ?_ _ | with_reducible refine Kept.alloc ?_ _ | (with_reducible refine Kept.setCell ?_ (by first | exact Nat.le_refl _ | omega | (simp; done) | (simp; omega)) _) | (with_reducible refine Kept.trans ?_ (by with_reducible assumption)))))).mono ?_; rintro e w2 ⟨rfl, hk2⟩)
    go_wp2_with fail
    (go_at_call 27; refine (KB.out _ (KT.out _ (by repeat (first | with_reducible exact Kept.refl _ | with_reducible assumption | with_reducible refine Kept.drew ?_ | with_reducible refine Kept.drewN ?_ _ | with_reducible refine Kept.alloc ?_ _ | (with_reducible refine Kept.setCell ?_ (by first | exact Nat.le_refl _ | omega | (simp; done) | (simp; omega)) _) | (with_reducible refine Kept.trans ?_ (by with_reducible assumption)))))).mono ?_; rintro e w3 ⟨rfl, hk3⟩)
    go_wp2
    go_ret
    exact ⟨rfl, (by repeat (first | with_reducible exact Kept.refl _ | with_reducible assumption | with_reducible refine Kept.drew ?_ | with_reducible refine Kept.drewN ?_ _ | with_reducible refine Kept.alloc ?_ _ | (with_reducible refine Kept.setCell ?_ (by first | exact Nat.le_refl _ | omega | (simp; done) | (simp; omega)) _) | (with_reducible refine Kept.trans ?_ (by with_reducible assumption))))⟩
  · obtain ⟨r1, r2, r3, r4, r5⟩ := lt_range 2 y (.inr rfl) h1 h2
    have r6 := (lt_range 2 (y + 400) (.inr rfl) (by omega) (by omega)).1
    obtain ⟨u1, u2⟩ := again2 y h1 (by omega)
    have KA := Lib.hid (fun w hT => Letters_all 2 y w hT)
    rw [r1] at KA
    have KB := Lib.hid (fun w hT => Letters_all 2 (y + 400) w hT)
    rw [r6, u1, u2] at KB
    clear r1 r6 u1 u2
    go_enter Tryd.func9, Tryd.ntmps9
    go_wp2_with fail
    (go_at_call 22; refine (Gold_awake _ (KT.out _ (by repeat (first | with_reducible exact Kept.refl _ | with_reducible assumption | with_reducible refine Kept.drew ?_ | with_reducible refine Kept.drewN ?_ _ | with_reducible refine Kept.alloc ?_ _ | (with_reducible refine Kept.setCell ?_ (by first | exact Nat.le_refl _ | omega | (simp; done) | (simp; omega)) _) | (with_reducible refine Kept.trans ?_ (by with_reducible assumption)))))).mono ?_; rintro e w1 ⟨rfl, hk1⟩)
    go_wp2_with fail
    (go_at_call 30; refine (In_yes _ _ h1 h2).mono ?_; rintro e w1 ⟨rfl, rfl⟩)
    go_wp2_with fail
    (go_at_call 27; refine (KA.out _ (KT.out _ (by repeat (first | with_reducible exact Kept.refl _ | with_reducible assumption | with_reducible refine Kept.drew ?_ | with_reducible refine Kept.drewN ?_ _ | with_reducible refine Kept.alloc ?_ _ | (with_reducible refine Kept.setCell ?_ (by first | exact Nat.le_refl _ | omega | (simp; done) | (simp; omega)) _) | (with_reducible refine Kept.trans ?_ (by with_reducible assumption)))))).mono ?_; rintro e w2 ⟨rfl, hk2⟩)
    go_wp2_with fail
    (go_at_call 27; refine (KB.out _ (KT.out _ (by repeat (first | with_reducible exact Kept.refl _ | with_reducible assumption | with_reducible refine Kept.drew ?_ | with_reducible refine Kept.drewN ?_ _ | with_reducible refine Kept.alloc ?_ _ | (with_reducible refine Kept.setCell ?_ (by first | exact Nat.le_refl _ | omega | (simp; done) | (simp; omega)) _) | (with_reducible refine Kept.trans ?_ (by with_reducible assumption)))))).mono ?_; rintro e w3 ⟨rfl, hk3⟩)
    go_wp2
    go_ret
    exact ⟨rfl, (by repeat (first | with_reducible exact Kept.refl _ | with_reducible assumption | with_reducible refine Kept.drew ?_ | with_reducible refine Kept.drewN ?_ _ | with_reducible refine Kept.alloc ?_ _ | (with_reducible refine Kept.setCell ?_ (by first | exact Nat.le_refl _ | omega | (simp; done) | (simp; omega)) _) | (with_reducible refine Kept.trans ?_ (by with_reducible assumption))))⟩

set_option maxRecDepth 100000 in
theorem GoldenRepeats_contract (H : Type) (enc : TypeId × Value → H) (W : World) (base : Nat) (args : Array Value) (ds gs : List (DataW H)) (before : List MemPlace)
    (hval : ∀ (j : Nat) t v, Tryd.f9.params[j]? = some t → args[j]? = some v → Value.okWide Tryd.prog W .any base t v)
    (hW : DataW.Whole enc Tryd.prog Tryd.f9.params.toList Rows.goldenRepeatsSpec.vars false W args.toList ds gs before) (hL : laidMetH Tryd.prog Rows.goldenRepeatsRow.laid W) :
    Calls Tryd.prog 9 args W fun e W' => ∃ v, e = .returned v ∧ Rows.goldenRepeatsSpec.post enc Tryd.prog Tryd.f9 false true false false W args v W' := by
  have hW' := hW
  obtain ⟨p, q, hA0, hV, rfl, hfz, hnd⟩ := hW
  have hA : DataW.TrodAll enc Tryd.prog W 0 (fun _ => true) true Tryd.f9.params.toList args.toList ds p := hA0
  rw [Tryd.params9] at hA hval
  obtain ⟨v0, vs0, d0, ds0, p0, q0, hargs, rfl, rfl, h0, r0⟩ := trodAll_cons hA
  obtain ⟨v1, vs1, d1, ds1, p1, q1, rfl, rfl, rfl, h1, r1⟩ := trodAll_cons r0
  obtain ⟨rfl, rfl, rfl⟩ := trodAll_nil r1
  obtain rfl : args = #[v0, v1] := by cases args; simp_all
  obtain ⟨rfl, rfl⟩ := trodVars_none hV
  obtain ⟨a0, rfl, rfl, rfl, w0⟩ := open_int Tryd.underlying5 (hval 0 5 v0 rfl rfl) h0
  obtain ⟨a1, rfl, rfl, rfl, w1⟩ := open_int Tryd.underlying3 (hval 1 3 v1 rfl rfl) h1
  clear hA0
  simp only [List.append_nil] at hW'
  refine (GoldenRepeats_walk a0 a1 (wf_bounds8 w0) (wf_bounds w1) W (tab_of hL)).mono fun e W' ⟨he, hg⟩ => ?_
  subst he
  exact ⟨_, rfl, post_of_kept (pa := []) (pv := []) hW' (fun _ _ _ => (trodAll_cons_mk (shut_bool Tryd.underlying4 _) trodAll_mk0)) (fun sp _ => (trodAll_cons_mk (shut_int Tryd.underlying5 w0) (trodAll_cons_mk (shut_int Tryd.underlying3 w1) trodAll_mk0))) (fun _ _ => rfl) rfl
    hg (ok_one (by kernel_rfl) rfl (okWide_bool_mk Tryd.underlying4 _))⟩
theorem GoldenRepeats_laid (os : Os) : laidMet Tryd.prog Rows.goldenRepeatsRow.laid ((laidWorld os).forCall (fun _ _ => 0) ⟨#[], #[.int .u8 0, .int .i64 0], []⟩).memory :=
  laidMet_of_run' 8 (by kernel_rfl) (by kernel_rfl)
theorem GoldenRepeats_reads (os : Os) {H : Type} (enc : TypeId × Value → H) : ∃ places, DataW.whole enc Tryd.prog ((laidWorld os).forCall (fun _ _ => 0) ⟨#[], #[.int .u8 0, .int .i64 0], []⟩).memory Tryd.f9.params.toList Rows.goldenRepeatsSpec.vars false (#[.int .u8 0, .int .i64 0] : Array Value).toList 8 = some ([.lit (.int .u8 0), .lit (.int .i64 0)], [], places) :=
  ⟨[], by kernel_rfl⟩
set_option maxRecDepth 100000 in
theorem GoldenRepeats_lifted (os : Os) (started : os.Started) (H : Type) (enc : TypeId × Value → H) (F : Stop.Interp) :
    ReturnsInHanded {} Tryd.checked os 9 .any ((OpenSpec.ofChange Rows.goldenRepeatsSpec).preRow enc Tryd.prog Tryd.f9 Rows.goldenRepeatsRow.domain false Rows.goldenRepeatsRow.laid) (((OpenSpec.ofChange Rows.goldenRepeatsSpec).at F).post enc Tryd.prog Tryd.f9 false true false false) := by
  obtain ⟨places, hx⟩ := GoldenRepeats_reads os enc
  refine returnsInHanded_of_row (C := Tryd.checked) (s := OpenSpec.ofChange Rows.goldenRepeatsSpec) own_knob started (by kernel_rfl) Tryd.func9
    (witness_row_at (enc := enc) (C := Tryd.checked) false (laidWorld os) #[.int .u8 0, .int .i64 0] rfl (by kernel_rfl) (by kernel_rfl) (by kernel_rfl)
      (OpenSpec.preRow_of_cond 8 hx (by kernel_rfl) (fun k hk => by cases hk) (by kernel_rfl) (GoldenRepeats_laid os))) ?_
  intro W base args ds gs before hval hW _ _ _ hL _ _
  exact GoldenRepeats_contract H enc W base args ds gs before hval hW hL
theorem GoldenRepeats_said : Rows.GoldenRepeatsSaid :=
  OpenClaim.holds_of_cond 9 Tryd.f9 rfl rfl rfl rfl rfl rfl rfl ⟨rfl, rfl, rfl, rfl, rfl⟩ rfl rfl rfl rfl rfl (by kernel_rfl) Tryd.func9 (by kernel_rfl)
    (of_decide_eq_true (by kernel_rfl)) (by unfold Func.isWrapper; first | (rw [if_pos (by decide +kernel)]; kernel_rfl) | (rw [if_neg (by decide +kernel)]; exact ⟨rfl, rfl⟩))
    (fun os started H enc _ F => by rw [OpenClaim.pre_eq_preRow]; exact GoldenRepeats_lifted os started H enc F)
theorem GoldenRepeats_plain (f : FuncId) (fn : Func) (hf : Tryd.pinned.checked.prog.funcNamed "computus/computuslaw06.GoldenRepeats" = some f) (hfn : Tryd.pinned.checked.prog.funcs[f]? = some fn) :
    false = Tryd.pinned.checked.prog.looks [] ∧ ∀ (j : Nat) t, fn.params[j]? = some t → Tryd.pinned.checked.prog.wantsStandIn t = false := by
  obtain rfl : f = 9 := Option.some.inj ((show Tryd.prog.funcNamed "computus/computuslaw06.GoldenRepeats" = some 9 by kernel_rfl).symm.trans hf) |>.symm
  obtain rfl : fn = Tryd.f9 := (Option.some.inj (Tryd.func9.symm.trans hfn)).symm
  refine ⟨by kernel_rfl, fun j t ht => ?_⟩
  rw [Tryd.params9] at ht
  have hm : t ∈ [5, 3] := by simpa using Array.mem_of_getElem? ht
  have hall : ([5, 3].all fun u => !Tryd.prog.wantsStandIn u) = true := by kernel_rfl
  exact (show Tryd.prog.wantsStandIn t = false by simpa using List.all_eq_true.1 hall t hm)
theorem GoldenRepeats_proved : Rows.GoldenRepeatsCardSaid :=
  Claim7.holds_tied_plain_at .later [] _ _ _ _ GoldenRepeats_said (fun _ h => by cases h) (by kernel_rfl) (fun _ h => by cases h) goldenRepeats_row_tie rfl ⟨rfl, rfl⟩ (by kernel_rfl) rfl GoldenRepeats_plain (by kernel_rfl)
#print axioms GoldenRepeats_proved
end Go.Proofs.YtcfgiboknkkheaaDoor

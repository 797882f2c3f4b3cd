/- OrthodoxDelay. -/
import Derived.Test.YtliomdnglhjfaaaDoorOrtL
import Derived.Test.YtliomdnglhjfaaaDoorLaidG
import Derived.Test.YtliomdnglhjfaaaDoorHead
import Derived.Test.YtliomdnglhjfaaaDoorCellsD
set_option linter.unusedSimpArgs false
set_option linter.unusedVariables false
set_option linter.unusedSectionVars false
namespace Go.Proofs.YtliomdnglhjfaaaDoor
open Go.ChangeShapes Go.WideShapes Go.ChangeAt Go.RowKit Go.Joins
set_option maxHeartbeats 1000000
set_option maxRecDepth 20000

theorem lp_12 (y : Int) : (lp 2 y = true → lp 1 y = true) := by
  unfold lp
  rw [if_pos rfl, if_neg (by decide)]
  simp
  omega
theorem delay_val (y m d : Int) (h : OkD 2 y m d) : dlE y m d = 0 ∧ dlN y m d = (if m < 3 then y - 1 else y) / 100 - (if m < 3 then y - 1 else y) / 400 - 2 := by
  obtain ⟨h1, h2, h3, h4, h5, h6⟩ := id h
  have hl : mlen (lp 2 y) m ≤ mlen (lp 1 y) m := by
    cases h2 : lp 2 y with
    | true => rw [lp_12 y h2]; exact Int.le_refl _
    | false =>
      cases lp 1 y with
      | false => exact Int.le_refl _
      | true =>
        rcases month_cases m h3 h4 with rfl | rfl | rfl | rfl | rfl | rfl | rfl | rfl | rfl | rfl | rfl | rfl <;> decide
  have h' : OkD 1 y m d := ⟨h1, h2, h3, h4, h5, by omega⟩
  have e1 : cE 1 y m d = 0 ∧ cN 1 y m d = num 1 y m d := by
    rcases c_cases 1 y m d with ⟨_, _, a, b⟩ | ⟨_, _, _, n⟩
    · exact ⟨b, a⟩
    · exact absurd ⟨.inl rfl, h'⟩ n
  have e2 : cE 2 y m d = 0 ∧ cN 2 y m d = num 2 y m d := by
    rcases c_cases 2 y m d with ⟨_, _, a, b⟩ | ⟨_, _, _, n⟩
    · exact ⟨b, a⟩
    · exact absurd ⟨.inr rfl, h⟩ n
  have z : dlE y m d = 0 := by unfold dlE; rw [if_pos e1.1]; exact e2.1
  refine ⟨z, ?_⟩
  unfold dlN
  rw [if_pos z, e1.2, e2.2]
  unfold num fst
  rw [if_pos rfl, if_neg (by decide)]
  by_cases hm : m < 3
  · rw [if_pos hm]
    have c1 : cum (lp 1 y) m = cum (lp 2 y) m := by
      rcases (show m = 1 ∨ m = 2 by omega) with rfl | rfl <;> (cases lp 1 y <;> cases lp 2 y <;> decide)
    rw [c1]
    omega
  · rw [if_neg hm]
    have c1 : ∀ b, cum b m = cum false m + if b then 1 else 0 := by
      intro b
      rcases month_cases m h3 h4 with rfl | rfl | rfl | rfl | rfl | rfl | rfl | rfl | rfl | rfl | rfl | rfl <;> first | omega | (cases b <;> decide)
    rw [c1 (lp 1 y), c1 (lp 2 y), lp_if, lp_if, if_pos rfl, if_neg (show ¬ (2 : Int) = 1 by decide)]
    by_cases a4 : y % 4 = 0
    · rw [if_pos a4]
      by_cases a5 : y % 100 ≠ 0 ∨ y % 400 = 0
      · rw [if_pos ⟨a4, a5⟩]; omega
      · rw [if_neg (fun g => a5 g.2)]; omega
    · rw [if_neg a4, if_neg (fun g => a4 g.1)]; omega
theorem OrthodoxDelay_walk (y m d : Int) (by0 : -9223372036854775808 ≤ y ∧ y ≤ 9223372036854775807) (_b2 : -9223372036854775808 ≤ m ∧ m ≤ 9223372036854775807) (_b3 : -9223372036854775808 ≤ d ∧ d ≤ 9223372036854775807) (w : World) (hT : RTab w) :
    Calls Tryd.prog 16 #[.agg #[.int .i64 y, .int .i64 m, .int .i64 d]] w fun e w' => e = .returned (.bool true) ∧ Kept w w' := by
  have KT := Lib.hid (fun w' (k : Kept w w') => hT.kept k)
  have KL := Lib.hid (fun w hT => ODelay_any y m d w hT)
  clear hT
  by_cases h : OkD 2 y m d
  · obtain ⟨e1, e2⟩ := delay_val y m d h
    rw [e1, e2] at KL
    have KV := Lib.hid (fun w => rValid_yes y m d w h)
    obtain ⟨h1, h2, h3, h4, _, _⟩ := h
    clear e1 e2
    by_cases hm : m < 3
    · rw [if_pos hm] at KL
      go_enter Tryd.func16, Tryd.ntmps16
      go_wp2_with fail
      (go_at_call 43; refine (Ort_awake _ (KT.out _ (by repeat (first | with_reducible exact Kept.refl _ | with_reducible assumption | with_reducible refine Kept.drew ?_ | with_reducible refine Kept.drewN ?_ _ | with_reducible refine Kept.alloc ?_ _ | (with_reducible refine Kept.setCell ?_ (by first | exact Nat.le_refl _ | omega | (simp; done) | (simp; omega)) _) | (with_reducible refine Kept.trans ?_ (by with_reducible assumption)))))).mono ?_; rintro e w1 ⟨rfl, hk1⟩)
      have hB1_1 := hk1
      obtain ⟨hc1_1, hf1_1⟩ := kept_cells hB1_1
      have hz1_0_1 : w.heap.size < w1.heap.size := by have := hB1_1.size; simp at this; omega
      go_wp2_with fail
      (go_at_call 52; refine (KV.out _).mono ?_; rintro e w2 ⟨rfl, hk2⟩)
      have hB1_2 := Kept.trans hB1_1 hk2
      obtain ⟨hc1_2, hf1_2⟩ := kept_cells hB1_2
      have hz1_0_2 : w.heap.size < w2.heap.size := by have := hB1_2.size; simp at this; omega
      go_wp2_with fail
      (go_at_call 46; refine (KL.out _ (KT.out _ (by repeat (first | with_reducible exact Kept.refl _ | with_reducible assumption | with_reducible refine Kept.drew ?_ | with_reducible refine Kept.drewN ?_ _ | with_reducible refine Kept.alloc ?_ _ | (with_reducible refine Kept.setCell ?_ (by first | exact Nat.le_refl _ | omega | (simp; done) | (simp; omega)) _) | (with_reducible refine Kept.trans ?_ (by with_reducible assumption)))))).mono ?_; rintro e w3 ⟨rfl, hk3⟩)
      have hB1_3 := Kept.trans hB1_2 hk3
      obtain ⟨hc1_3, hf1_3⟩ := kept_cells hB1_3
      have hz1_0_3 : w.heap.size < w3.heap.size := by have := hB1_3.size; simp at this; omega
      go_wp2
      go_ret
      exact ⟨by first | rfl | (show Ending.returned (Value.bool _) = Ending.returned (Value.bool _); congr 2; simp; omega), (by repeat (first | with_reducible exact Kept.refl _ | with_reducible assumption | with_reducible refine Kept.drew ?_ | with_reducible refine Kept.drewN ?_ _ | with_reducible refine Kept.alloc ?_ _ | (with_reducible refine Kept.setCell ?_ (by first | exact Nat.le_refl _ | omega | (simp; done) | (simp; omega)) _) | (with_reducible refine Kept.trans ?_ (by with_reducible assumption))))⟩
    · rw [if_neg hm] at KL
      go_enter Tryd.func16, Tryd.ntmps16
      go_wp2_with fail
      (go_at_call 43; refine (Ort_awake _ (KT.out _ (by repeat (first | with_reducible exact Kept.refl _ | with_reducible assumption | with_reducible refine Kept.drew ?_ | with_reducible refine Kept.drewN ?_ _ | with_reducible refine Kept.alloc ?_ _ | (with_reducible refine Kept.setCell ?_ (by first | exact Nat.le_refl _ | omega | (simp; done) | (simp; omega)) _) | (with_reducible refine Kept.trans ?_ (by with_reducible assumption)))))).mono ?_; rintro e w1 ⟨rfl, hk1⟩)
      have hB1_1 := hk1
      obtain ⟨hc1_1, hf1_1⟩ := kept_cells hB1_1
      have hz1_0_1 : w.heap.size < w1.heap.size := by have := hB1_1.size; simp at this; omega
      go_wp2_with fail
      (go_at_call 52; refine (KV.out _).mono ?_; rintro e w2 ⟨rfl, hk2⟩)
      have hB1_2 := Kept.trans hB1_1 hk2
      obtain ⟨hc1_2, hf1_2⟩ := kept_cells hB1_2
      have hz1_0_2 : w.heap.size < w2.heap.size := by have := hB1_2.size; simp at this; omega
      go_wp2_with fail
      (go_at_call 46; refine (KL.out _ (KT.out _ (by repeat (first | with_reducible exact Kept.refl _ | with_reducible assumption | with_reducible refine Kept.drew ?_ | with_reducible refine Kept.drewN ?_ _ | with_reducible refine Kept.alloc ?_ _ | (with_reducible refine Kept.setCell ?_ (by first | exact Nat.le_refl _ | omega | (simp; done) | (simp; omega)) _) | (with_reducible refine Kept.trans ?_ (by with_reducible assumption)))))).mono ?_; rintro e w3 ⟨rfl, hk3⟩)
      have hB1_3 := Kept.trans hB1_2 hk3
      obtain ⟨hc1_3, hf1_3⟩ := kept_cells hB1_3
      have hz1_0_3 : w.heap.size < w3.heap.size := by have := hB1_3.size; simp at this; omega
      go_wp2
      go_ret
      exact ⟨by first | rfl | (show Ending.returned (Value.bool _) = Ending.returned (Value.bool _); congr 2; simp; omega), (by repeat (first | with_reducible exact Kept.refl _ | with_reducible assumption | with_reducible refine Kept.drew ?_ | with_reducible refine Kept.drewN ?_ _ | with_reducible refine Kept.alloc ?_ _ | (with_reducible refine Kept.setCell ?_ (by first | exact Nat.le_refl _ | omega | (simp; done) | (simp; omega)) _) | (with_reducible refine Kept.trans ?_ (by with_reducible assumption))))⟩
  · have KV := Lib.hid (fun w => rValid_no y m d w h)
    clear h
    go_enter Tryd.func16, Tryd.ntmps16
    go_wp2_with fail
    (go_at_call 43; refine (Ort_awake _ (KT.out _ (by repeat (first | with_reducible exact Kept.refl _ | with_reducible assumption | with_reducible refine Kept.drew ?_ | with_reducible refine Kept.drewN ?_ _ | with_reducible refine Kept.alloc ?_ _ | (with_reducible refine Kept.setCell ?_ (by first | exact Nat.le_refl _ | omega | (simp; done) | (simp; omega)) _) | (with_reducible refine Kept.trans ?_ (by with_reducible assumption)))))).mono ?_; rintro e w1 ⟨rfl, hk1⟩)
    have hB1_1 := hk1
    obtain ⟨hc1_1, hf1_1⟩ := kept_cells hB1_1
    have hz1_0_1 : w.heap.size < w1.heap.size := by have := hB1_1.size; simp at this; omega
    go_wp2_with fail
    (go_at_call 52; refine (KV.out _).mono ?_; rintro e w2 ⟨rfl, hk2⟩)
    have hB1_2 := Kept.trans hB1_1 hk2
    obtain ⟨hc1_2, hf1_2⟩ := kept_cells hB1_2
    have hz1_0_2 : w.heap.size < w2.heap.size := by have := hB1_2.size; simp at this; omega
    go_wp2_with fail
    (go_at_call 43; refine (Ort_awake _ (KT.out _ (by repeat (first | with_reducible exact Kept.refl _ | with_reducible assumption | with_reducible refine Kept.drew ?_ | with_reducible refine Kept.drewN ?_ _ | with_reducible refine Kept.alloc ?_ _ | (with_reducible refine Kept.setCell ?_ (by first | exact Nat.le_refl _ | omega | (simp; done) | (simp; omega)) _) | (with_reducible refine Kept.trans ?_ (by with_reducible assumption)))))).mono ?_; rintro e w3 ⟨rfl, hk3⟩)
    have hB1_3 := Kept.trans hB1_2 hk3
    obtain ⟨hc1_3, hf1_3⟩ := kept_cells hB1_3
    have hz1_0_3 : w.heap.size < w3.heap.size := by have := hB1_3.size; simp at this; omega
    go_wp2
    go_ret
    exact ⟨rfl, (by repeat (first | with_reducible exact Kept.refl _ | with_reducible assumption | with_reducible refine Kept.drew ?_ | with_reducible refine Kept.drewN ?_ _ | with_reducible refine Kept.alloc ?_ _ | (with_reducible refine Kept.setCell ?_ (by first | exact Nat.le_refl _ | omega | (simp; done) | (simp; omega)) _) | (with_reducible refine Kept.trans ?_ (by with_reducible assumption))))⟩

set_option maxRecDepth 100000 in
theorem OrthodoxDelay_contract (H : Type) (enc : TypeId × Value → H) (W : World) (base : Nat) (args : Array Value) (ds gs : List (DataW H)) (before : List MemPlace)
    (hval : ∀ (j : Nat) t v, Tryd.f16.params[j]? = some t → args[j]? = some v → Value.okWide Tryd.prog W .any base t v)
    (hW : DataW.Whole enc Tryd.prog Tryd.f16.params.toList Rows.orthodoxDelaySpec.vars false W args.toList ds gs before) (hL : laidMetH Tryd.prog Rows.orthodoxDelayRow.laid W) :
    Calls Tryd.prog 16 args W fun e W' => ∃ v, e = .returned v ∧ Rows.orthodoxDelaySpec.post enc Tryd.prog Tryd.f16 false true false false W args v W' := by
  have hW' := hW
  obtain ⟨p, q, hA0, hV, rfl, hfz, hnd⟩ := hW
  have hA : DataW.TrodAll enc Tryd.prog W 0 (fun _ => true) true Tryd.f16.params.toList args.toList ds p := hA0
  rw [Tryd.params16] at hA hval
  obtain ⟨v0, vs0, d0, ds0, p0, q0, hargs, rfl, rfl, h0, r0⟩ := trodAll_cons hA
  obtain ⟨rfl, rfl, rfl⟩ := trodAll_nil r0
  obtain rfl : args = #[v0] := by cases args; simp_all
  obtain ⟨rfl, rfl⟩ := trodVars_none hV
  obtain ⟨c00, c01, c02, y00, y01, y02, m0, rfl, rfl, rfl, hy00, hy01, hy02⟩ := open_agg3 Tryd.underlying23 (by kernel_rfl) cells_Date (hval 0 23 v0 rfl rfl) h0
  obtain ⟨a00, e00, rfl, w00⟩ := DataW.trod_int Tryd.underlying3 hy00
  obtain ⟨a01, e01, rfl, w01⟩ := DataW.trod_int Tryd.underlying3 hy01
  obtain ⟨a02, e02, rfl, w02⟩ := DataW.trod_int Tryd.underlying3 hy02
  simp at e00 e01 e02
  subst e00 e01 e02
  clear hA0
  simp only [List.append_nil] at hW'
  refine (OrthodoxDelay_walk a00 a01 a02 (wf_bounds w00) (wf_bounds w01) (wf_bounds w02) W (tab_of hL)).mono fun e W' ⟨he, hg⟩ => ?_
  subst he
  exact ⟨_, rfl, post_of_kept (pa := []) (pv := []) hW' (fun _ _ _ => (trodAll_cons_mk (shut_bool Tryd.underlying4 _) trodAll_mk0)) (fun sp _ => (trodAll_cons_mk (shut_agg3 (y0 := (.lit (.int .i64 a00), [])) (y1 := (.lit (.int .i64 a01), [])) (y2 := (.lit (.int .i64 a02), [])) Tryd.underlying23 (by kernel_rfl) cells_Date ⟨1, by simp [DataW.trod, Tryd.underlying3, w00]⟩ ⟨1, by simp [DataW.trod, Tryd.underlying3, w01]⟩ ⟨1, by simp [DataW.trod, Tryd.underlying3, w02]⟩) trodAll_mk0)) (fun _ _ => rfl) rfl
    hg (ok_one (by kernel_rfl) rfl (okWide_bool_mk Tryd.underlying4 _))⟩
theorem OrthodoxDelay_laid (os : Os) : laidMet Tryd.prog Rows.orthodoxDelayRow.laid ((laidWorld os).forCall (fun _ _ => 0) ⟨#[], #[.agg #[.int .i64 0, .int .i64 0, .int .i64 0]], []⟩).memory :=
  laidMet_of_run' 8 (by kernel_rfl) (by kernel_rfl)
theorem OrthodoxDelay_reads (os : Os) {H : Type} (enc : TypeId × Value → H) : ∃ places, DataW.whole enc Tryd.prog ((laidWorld os).forCall (fun _ _ => 0) ⟨#[], #[.agg #[.int .i64 0, .int .i64 0, .int .i64 0]], []⟩).memory Tryd.f16.params.toList Rows.orthodoxDelaySpec.vars false (#[.agg #[.int .i64 0, .int .i64 0, .int .i64 0]] : Array Value).toList 8 = some ([.agg [.lit (.int .i64 0), .lit (.int .i64 0), .lit (.int .i64 0)]], [], places) :=
  ⟨[], by kernel_rfl⟩
set_option maxRecDepth 100000 in
theorem OrthodoxDelay_lifted (os : Os) (started : os.Started) (H : Type) (enc : TypeId × Value → H) (F : Stop.Interp) :
    ReturnsInHanded {} Tryd.checked os 16 .any ((OpenSpec.ofChange Rows.orthodoxDelaySpec).preRow enc Tryd.prog Tryd.f16 Rows.orthodoxDelayRow.domain false Rows.orthodoxDelayRow.laid) (((OpenSpec.ofChange Rows.orthodoxDelaySpec).at F).post enc Tryd.prog Tryd.f16 false true false false) := by
  obtain ⟨places, hx⟩ := OrthodoxDelay_reads os enc
  refine returnsInHanded_of_row (C := Tryd.checked) (s := OpenSpec.ofChange Rows.orthodoxDelaySpec) own_knob started (by kernel_rfl) Tryd.func16
    (witness_row_at (enc := enc) (C := Tryd.checked) false (laidWorld os) #[.agg #[.int .i64 0, .int .i64 0, .int .i64 0]] rfl (by kernel_rfl) (by kernel_rfl) (by kernel_rfl)
      (OpenSpec.preRow_of_cond 8 hx (by kernel_rfl) (fun k hk => by cases hk) (by kernel_rfl) (OrthodoxDelay_laid os))) ?_
  intro W base args ds gs before hval hW _ _ _ hL _ _
  exact OrthodoxDelay_contract H enc W base args ds gs before hval hW hL
theorem OrthodoxDelay_closed : joinedFacts Tryd.pinned.checked.prog 16 Tryd.f16 (OpenSpec.ofChange Rows.orthodoxDelaySpec).bare Rows.orthodoxDelayRow = true := by
  unfold joinedFacts
  simp only [Bool.and_eq_true]
  repeat' apply And.intro
  all_goals (first | with_reducible exact head_enter | (rw [head_make]; rfl) | (rw [head_final]; rfl) | (as_aux_lemma => kernel_rfl))
theorem OrthodoxDelay_said : Rows.OrthodoxDelaySaid :=
  OpenClaim.holds_of_cond 16 Tryd.f16 rfl rfl rfl rfl rfl rfl rfl ⟨rfl, rfl, rfl, rfl, rfl⟩ rfl rfl rfl rfl rfl (by kernel_rfl) Tryd.func16 OrthodoxDelay_closed
    (of_decide_eq_true (by kernel_rfl)) (by unfold Func.isWrapper; first | (rw [if_pos (by decide +kernel)]; kernel_rfl) | (rw [if_neg (by decide +kernel)]; exact ⟨rfl, rfl⟩))
    (fun os started H enc _ F => by rw [OpenClaim.pre_eq_preRow]; exact OrthodoxDelay_lifted os started H enc F)
theorem OrthodoxDelay_plain (f : FuncId) (fn : Func) (hf : Tryd.pinned.checked.prog.funcNamed "computus/computuslaw13.OrthodoxDelay" = some f) (hfn : Tryd.pinned.checked.prog.funcs[f]? = some fn) :
    false = Tryd.pinned.checked.prog.looks [] ∧ ∀ (j : Nat) t, fn.params[j]? = some t → Tryd.pinned.checked.prog.wantsStandIn t = false := by
  obtain rfl : f = 16 := Option.some.inj ((show Tryd.prog.funcNamed "computus/computuslaw13.OrthodoxDelay" = some 16 by kernel_rfl).symm.trans hf) |>.symm
  obtain rfl : fn = Tryd.f16 := (Option.some.inj (Tryd.func16.symm.trans hfn)).symm
  refine ⟨by kernel_rfl, fun j t ht => ?_⟩
  rw [Tryd.params16] at ht
  have hm : t ∈ [23] := by simpa using Array.mem_of_getElem? ht
  have hall : ([23].all fun u => !Tryd.prog.wantsStandIn u) = true := by kernel_rfl
  exact (show Tryd.prog.wantsStandIn t = false by simpa using List.all_eq_true.1 hall t hm)
theorem OrthodoxDelay_proved : Rows.OrthodoxDelayCardSaid :=
  Claim7.holds_tied_plain_at .later [] _ _ _ _ OrthodoxDelay_said (fun _ h => by cases h) (by kernel_rfl) (fun _ h => by cases h) orthodoxDelay_row_tie rfl ⟨rfl, rfl⟩ (mainIs_of io_list (by kernel_rfl)) rfl OrthodoxDelay_plain (by kernel_rfl)
#print axioms OrthodoxDelay_proved
end Go.Proofs.YtliomdnglhjfaaaDoor

/- OrthodoxMatchesReference. -/
import Derived.Test.YtliomdnglhjfaaaDoorOrtL
import Derived.Test.YtliomdnglhjfaaaDoorLaidG
import Derived.Test.YtliomdnglhjfaaaDoorHead
import Derived.Test.YtliomdnglhjfaaaDoorCellsD
set_option linter.unusedSimpArgs false
set_option linter.unusedVariables false
set_option linter.unusedSectionVars false
namespace Go.Proofs.YtliomdnglhjfaaaDoor
open Go.ChangeShapes Go.WideShapes Go.ChangeAt Go.RowKit Go.Joins
set_option maxHeartbeats 1000000
set_option maxRecDepth 20000

theorem OrthodoxMatchesReference_walk (y a m d : Int) (by0 : -9223372036854775808 ≤ y ∧ y ≤ 9223372036854775807) (_b1 : -9223372036854775808 ≤ a ∧ a ≤ 9223372036854775807) (_b2 : -9223372036854775808 ≤ m ∧ m ≤ 9223372036854775807) (_b3 : -9223372036854775808 ≤ d ∧ d ≤ 9223372036854775807) (w : World) (hT : RTab w) :
    Calls Tryd.prog 13 #[.int .i64 y, .agg #[.int .i64 a, .int .i64 m, .int .i64 d]] w fun e w' => e = .returned (.bool true) ∧ Kept w w' := by
  have KT := Lib.hid (fun w' (k : Kept w w') => hT.kept k)
  obtain ⟨x1, x2, x3, e, hr⟩ := ot_some y
  have he := ot_e _ _ _ _ _ hr
  have KD := Lib.hid (fun w hT => ODate_any y x1 x2 x3 e w hT hr)
  have KR := Lib.hid (fun w => rODate_any y x1 x2 x3 e w hr)
  have KL := Lib.hid (fun w hT => ODelay_any a m d w hT)
  have KS := Lib.hid (fun w => rODelay_any a m d w)
  have KG := Lib.hid (fun w hT => OGap_any y w hT)
  have hdl : 0 ≤ dlE a m d ∧ dlE a m d ≤ 3 := by
    have r1 := cE_range 1 a m d
    have r2 := cE_range 2 a m d
    unfold dlE
    split <;> omega
  clear hT hr
  generalize dlN a m d = N at *
  generalize dlE a m d = E at *
  by_cases h : 1583 ≤ y ∧ y ≤ 1000000000
  · have hf : Fit 2 y := by unfold Fit; omega
    have h0 : flE 2 y = 0 := by
      rcases fl_cases 2 y with ⟨_, e⟩ | ⟨g, _⟩ | ⟨g, _⟩
      · exact e
      · unfold Off at g; omega
      · omega
    have hg : gpN y = esN 1 y - esN 2 y := if_pos h0
    rw [hg, h0] at KG
    have KP := Lib.hid (fun w => rOGap_ok y w hf)
    have KI := Lib.hid (fun w => InG_yes y w h.1 h.2)
    clear hf h0 hg
    generalize esN 1 y - esN 2 y = n at *
    go_enter Tryd.func13, Tryd.ntmps13
    go_wp2_with fail
    (go_at_call 43; refine (Ort_awake _ (KT.out _ (by repeat (first | with_reducible exact Kept.refl _ | with_reducible assumption | with_reducible refine Kept.drew ?_ | with_reducible refine Kept.drewN ?_ _ | with_reducible refine Kept.alloc ?_ _ | (with_reducible refine Kept.setCell ?_ (by first | exact Nat.le_refl _ | omega | (simp; done) | (simp; omega)) _) | (with_reducible refine Kept.trans ?_ (by with_reducible assumption)))))).mono ?_; rintro e w1 ⟨rfl, hk1⟩)
    have hB1_1 := hk1
    obtain ⟨hc1_1, hf1_1⟩ := kept_cells hB1_1
    have hz1_0_1 : w.heap.size < w1.heap.size := by have := hB1_1.size; simp at this; omega
    go_wp2_with fail
    (go_at_call 44; refine (KD.out _ (KT.out _ (by repeat (first | with_reducible exact Kept.refl _ | with_reducible assumption | with_reducible refine Kept.drew ?_ | with_reducible refine Kept.drewN ?_ _ | with_reducible refine Kept.alloc ?_ _ | (with_reducible refine Kept.setCell ?_ (by first | exact Nat.le_refl _ | omega | (simp; done) | (simp; omega)) _) | (with_reducible refine Kept.trans ?_ (by with_reducible assumption)))))).mono ?_; rintro e w2 ⟨rfl, hk2⟩)
    have hB1_2 := Kept.trans hB1_1 hk2
    obtain ⟨hc1_2, hf1_2⟩ := kept_cells hB1_2
    have hz1_0_2 : w.heap.size < w2.heap.size := by have := hB1_2.size; simp at this; omega
    go_wp2_with fail
    (go_at_call 45; refine (KR.out _).mono ?_; rintro e w3 ⟨rfl, hk3⟩)
    have hB1_3 := Kept.trans (Kept.alloc hB1_2 _) hk3
    have hB3_3 := hk3
    obtain ⟨hc1_3, hf1_3⟩ := kept_cells hB1_3
    have hz1_0_3 : w.heap.size < w3.heap.size := by have := hB1_3.size; simp at this; omega
    obtain ⟨hc3_3, hf3_3⟩ := kept_cells hB3_3
    have hz3_0_3 : w2.heap.size < w3.heap.size := by have := hB3_3.size; simp at this; omega
    go_wp2_with fail
    (go_at_call 46; refine (KL.out _ (KT.out _ (by repeat (first | with_reducible exact Kept.refl _ | with_reducible assumption | with_reducible refine Kept.drew ?_ | with_reducible refine Kept.drewN ?_ _ | with_reducible refine Kept.alloc ?_ _ | (with_reducible refine Kept.setCell ?_ (by first | exact Nat.le_refl _ | omega | (simp; done) | (simp; omega)) _) | (with_reducible refine Kept.trans ?_ (by with_reducible assumption)))))).mono ?_; rintro e w4 ⟨rfl, hk4⟩)
    have hB1_4 := Kept.trans (Kept.alloc hB1_3 _) hk4
    have hB3_4 := Kept.trans (Kept.alloc hB3_3 _) hk4
    have hB4_4 := hk4
    obtain ⟨hc1_4, hf1_4⟩ := kept_cells hB1_4
    have hz1_0_4 : w.heap.size < w4.heap.size := by have := hB1_4.size; simp at this; omega
    obtain ⟨hc3_4, hf3_4⟩ := kept_cells hB3_4
    have hz3_0_4 : w2.heap.size < w4.heap.size := by have := hB3_4.size; simp at this; omega
    obtain ⟨hc4_4, hf4_4⟩ := kept_cells hB4_4
    have hz4_0_4 : w3.heap.size < w4.heap.size := by have := hB4_4.size; simp at this; omega
    go_wp2_with fail
    (go_at_call 47; refine (KS.out _).mono ?_; rintro e w5 ⟨rfl, hk5⟩)
    have hB1_5 := Kept.trans hB1_4 hk5
    have hB3_5 := Kept.trans hB3_4 hk5
    have hB4_5 := Kept.trans hB4_4 hk5
    obtain ⟨hc1_5, hf1_5⟩ := kept_cells hB1_5
    have hz1_0_5 : w.heap.size < w5.heap.size := by have := hB1_5.size; simp at this; omega
    obtain ⟨hc3_5, hf3_5⟩ := kept_cells hB3_5
    have hz3_0_5 : w2.heap.size < w5.heap.size := by have := hB3_5.size; simp at this; omega
    obtain ⟨hc4_5, hf4_5⟩ := kept_cells hB4_5
    have hz4_0_5 : w3.heap.size < w5.heap.size := by have := hB4_5.size; simp at this; omega
    go_wp2_with fail
    (go_at_call 48; refine (KG.out _ (KT.out _ (by repeat (first | with_reducible exact Kept.refl _ | with_reducible assumption | with_reducible refine Kept.drew ?_ | with_reducible refine Kept.drewN ?_ _ | with_reducible refine Kept.alloc ?_ _ | (with_reducible refine Kept.setCell ?_ (by first | exact Nat.le_refl _ | omega | (simp; done) | (simp; omega)) _) | (with_reducible refine Kept.trans ?_ (by with_reducible assumption)))))).mono ?_; rintro e w6 ⟨rfl, hk6⟩)
    have hB1_6 := Kept.trans hB1_5 hk6
    have hB3_6 := Kept.trans hB3_5 hk6
    have hB4_6 := Kept.trans hB4_5 hk6
    obtain ⟨hc1_6, hf1_6⟩ := kept_cells hB1_6
    have hz1_0_6 : w.heap.size < w6.heap.size := by have := hB1_6.size; simp at this; omega
    obtain ⟨hc3_6, hf3_6⟩ := kept_cells hB3_6
    have hz3_0_6 : w2.heap.size < w6.heap.size := by have := hB3_6.size; simp at this; omega
    obtain ⟨hc4_6, hf4_6⟩ := kept_cells hB4_6
    have hz4_0_6 : w3.heap.size < w6.heap.size := by have := hB4_6.size; simp at this; omega
    go_wp2_with fail
    (go_at_call 49; refine (KI.out _).mono ?_; rintro e w1 ⟨rfl, rfl⟩)
    go_wp2_with fail
    (go_at_call 50; refine (KP.out _).mono ?_; rintro e w7 ⟨rfl, hk7⟩)
    have hB1_7 := Kept.trans hB1_6 hk7
    have hB3_7 := Kept.trans hB3_6 hk7
    have hB4_7 := Kept.trans hB4_6 hk7
    obtain ⟨hc1_7, hf1_7⟩ := kept_cells hB1_7
    have hz1_0_7 : w.heap.size < w7.heap.size := by have := hB1_7.size; simp at this; omega
    obtain ⟨hc3_7, hf3_7⟩ := kept_cells hB3_7
    have hz3_0_7 : w2.heap.size < w7.heap.size := by have := hB3_7.size; simp at this; omega
    obtain ⟨hc4_7, hf4_7⟩ := kept_cells hB4_7
    have hz4_0_7 : w3.heap.size < w7.heap.size := by have := hB4_7.size; simp at this; omega
    go_wp2
    go_ret
    exact ⟨rfl, (by repeat (first | with_reducible exact Kept.refl _ | with_reducible assumption | with_reducible refine Kept.drew ?_ | with_reducible refine Kept.drewN ?_ _ | with_reducible refine Kept.alloc ?_ _ | (with_reducible refine Kept.setCell ?_ (by first | exact Nat.le_refl _ | omega | (simp; done) | (simp; omega)) _) | (with_reducible refine Kept.trans ?_ (by with_reducible assumption))))⟩
  · have h0 : flE 2 y = 1 := by
      rcases fl_cases 2 y with ⟨g, _⟩ | ⟨_, e⟩ | ⟨g, _⟩
      · unfold Fit at g; omega
      · exact e
      · omega
    have hg : gpN y = 0 := by unfold gpN; rw [if_neg (by omega)]
    rw [hg, h0] at KG
    have KI := Lib.hid (fun w => InG_no y w (by omega))
    clear h0 hg
    go_enter Tryd.func13, Tryd.ntmps13
    go_wp2_with fail
    (go_at_call 43; refine (Ort_awake _ (KT.out _ (by repeat (first | with_reducible exact Kept.refl _ | with_reducible assumption | with_reducible refine Kept.drew ?_ | with_reducible refine Kept.drewN ?_ _ | with_reducible refine Kept.alloc ?_ _ | (with_reducible refine Kept.setCell ?_ (by first | exact Nat.le_refl _ | omega | (simp; done) | (simp; omega)) _) | (with_reducible refine Kept.trans ?_ (by with_reducible assumption)))))).mono ?_; rintro e w1 ⟨rfl, hk1⟩)
    have hB1_1 := hk1
    obtain ⟨hc1_1, hf1_1⟩ := kept_cells hB1_1
    have hz1_0_1 : w.heap.size < w1.heap.size := by have := hB1_1.size; simp at this; omega
    go_wp2_with fail
    (go_at_call 44; refine (KD.out _ (KT.out _ (by repeat (first | with_reducible exact Kept.refl _ | with_reducible assumption | with_reducible refine Kept.drew ?_ | with_reducible refine Kept.drewN ?_ _ | with_reducible refine Kept.alloc ?_ _ | (with_reducible refine Kept.setCell ?_ (by first | exact Nat.le_refl _ | omega | (simp; done) | (simp; omega)) _) | (with_reducible refine Kept.trans ?_ (by with_reducible assumption)))))).mono ?_; rintro e w2 ⟨rfl, hk2⟩)
    have hB1_2 := Kept.trans hB1_1 hk2
    obtain ⟨hc1_2, hf1_2⟩ := kept_cells hB1_2
    have hz1_0_2 : w.heap.size < w2.heap.size := by have := hB1_2.size; simp at this; omega
    go_wp2_with fail
    (go_at_call 45; refine (KR.out _).mono ?_; rintro e w3 ⟨rfl, hk3⟩)
    have hB1_3 := Kept.trans (Kept.alloc hB1_2 _) hk3
    have hB3_3 := hk3
    obtain ⟨hc1_3, hf1_3⟩ := kept_cells hB1_3
    have hz1_0_3 : w.heap.size < w3.heap.size := by have := hB1_3.size; simp at this; omega
    obtain ⟨hc3_3, hf3_3⟩ := kept_cells hB3_3
    have hz3_0_3 : w2.heap.size < w3.heap.size := by have := hB3_3.size; simp at this; omega
    go_wp2_with fail
    (go_at_call 46; refine (KL.out _ (KT.out _ (by repeat (first | with_reducible exact Kept.refl _ | with_reducible assumption | with_reducible refine Kept.drew ?_ | with_reducible refine Kept.drewN ?_ _ | with_reducible refine Kept.alloc ?_ _ | (with_reducible refine Kept.setCell ?_ (by first | exact Nat.le_refl _ | omega | (simp; done) | (simp; omega)) _) | (with_reducible refine Kept.trans ?_ (by with_reducible assumption)))))).mono ?_; rintro e w4 ⟨rfl, hk4⟩)
    have hB1_4 := Kept.trans (Kept.alloc hB1_3 _) hk4
    have hB3_4 := Kept.trans (Kept.alloc hB3_3 _) hk4
    have hB4_4 := hk4
    obtain ⟨hc1_4, hf1_4⟩ := kept_cells hB1_4
    have hz1_0_4 : w.heap.size < w4.heap.size := by have := hB1_4.size; simp at this; omega
    obtain ⟨hc3_4, hf3_4⟩ := kept_cells hB3_4
    have hz3_0_4 : w2.heap.size < w4.heap.size := by have := hB3_4.size; simp at this; omega
    obtain ⟨hc4_4, hf4_4⟩ := kept_cells hB4_4
    have hz4_0_4 : w3.heap.size < w4.heap.size := by have := hB4_4.size; simp at this; omega
    go_wp2_with fail
    (go_at_call 47; refine (KS.out _).mono ?_; rintro e w5 ⟨rfl, hk5⟩)
    have hB1_5 := Kept.trans hB1_4 hk5
    have hB3_5 := Kept.trans hB3_4 hk5
    have hB4_5 := Kept.trans hB4_4 hk5
    obtain ⟨hc1_5, hf1_5⟩ := kept_cells hB1_5
    have hz1_0_5 : w.heap.size < w5.heap.size := by have := hB1_5.size; simp at this; omega
    obtain ⟨hc3_5, hf3_5⟩ := kept_cells hB3_5
    have hz3_0_5 : w2.heap.size < w5.heap.size := by have := hB3_5.size; simp at this; omega
    obtain ⟨hc4_5, hf4_5⟩ := kept_cells hB4_5
    have hz4_0_5 : w3.heap.size < w5.heap.size := by have := hB4_5.size; simp at this; omega
    go_wp2_with fail
    (go_at_call 48; refine (KG.out _ (KT.out _ (by repeat (first | with_reducible exact Kept.refl _ | with_reducible assumption | with_reducible refine Kept.drew ?_ | with_reducible refine Kept.drewN ?_ _ | with_reducible refine Kept.alloc ?_ _ | (with_reducible refine Kept.setCell ?_ (by first | exact Nat.le_refl _ | omega | (simp; done) | (simp; omega)) _) | (with_reducible refine Kept.trans ?_ (by with_reducible assumption)))))).mono ?_; rintro e w6 ⟨rfl, hk6⟩)
    have hB1_6 := Kept.trans hB1_5 hk6
    have hB3_6 := Kept.trans hB3_5 hk6
    have hB4_6 := Kept.trans hB4_5 hk6
    obtain ⟨hc1_6, hf1_6⟩ := kept_cells hB1_6
    have hz1_0_6 : w.heap.size < w6.heap.size := by have := hB1_6.size; simp at this; omega
    obtain ⟨hc3_6, hf3_6⟩ := kept_cells hB3_6
    have hz3_0_6 : w2.heap.size < w6.heap.size := by have := hB3_6.size; simp at this; omega
    obtain ⟨hc4_6, hf4_6⟩ := kept_cells hB4_6
    have hz4_0_6 : w3.heap.size < w6.heap.size := by have := hB4_6.size; simp at this; omega
    go_wp2_with fail
    (go_at_call 49; refine (KI.out _).mono ?_; rintro e w1 ⟨rfl, rfl⟩)
    go_wp2
    go_ret
    exact ⟨rfl, (by repeat (first | with_reducible exact Kept.refl _ | with_reducible assumption | with_reducible refine Kept.drew ?_ | with_reducible refine Kept.drewN ?_ _ | with_reducible refine Kept.alloc ?_ _ | (with_reducible refine Kept.setCell ?_ (by first | exact Nat.le_refl _ | omega | (simp; done) | (simp; omega)) _) | (with_reducible refine Kept.trans ?_ (by with_reducible assumption))))⟩

set_option maxRecDepth 100000 in
theorem OrthodoxMatchesReference_contract (H : Type) (enc : TypeId × Value → H) (W : World) (base : Nat) (args : Array Value) (ds gs : List (DataW H)) (before : List MemPlace)
    (hval : ∀ (j : Nat) t v, Tryd.f13.params[j]? = some t → args[j]? = some v → Value.okWide Tryd.prog W .any base t v)
    (hW : DataW.Whole enc Tryd.prog Tryd.f13.params.toList Rows.orthodoxMatchesReferenceSpec.vars false W args.toList ds gs before) (hL : laidMetH Tryd.prog Rows.orthodoxMatchesReferenceRow.laid W) :
    Calls Tryd.prog 13 args W fun e W' => ∃ v, e = .returned v ∧ Rows.orthodoxMatchesReferenceSpec.post enc Tryd.prog Tryd.f13 false true false false W args v W' := by
  have hW' := hW
  obtain ⟨p, q, hA0, hV, rfl, hfz, hnd⟩ := hW
  have hA : DataW.TrodAll enc Tryd.prog W 0 (fun _ => true) true Tryd.f13.params.toList args.toList ds p := hA0
  rw [Tryd.params13] at hA hval
  obtain ⟨v0, vs0, d0, ds0, p0, q0, hargs, rfl, rfl, h0, r0⟩ := trodAll_cons hA
  obtain ⟨v1, vs1, d1, ds1, p1, q1, rfl, rfl, rfl, h1, r1⟩ := trodAll_cons r0
  obtain ⟨rfl, rfl, rfl⟩ := trodAll_nil r1
  obtain rfl : args = #[v0, v1] := by cases args; simp_all
  obtain ⟨rfl, rfl⟩ := trodVars_none hV
  obtain ⟨a0, rfl, rfl, rfl, w0⟩ := open_int Tryd.underlying3 (hval 0 3 v0 rfl rfl) h0
  obtain ⟨c10, c11, c12, y10, y11, y12, m1, rfl, rfl, rfl, hy10, hy11, hy12⟩ := open_agg3 Tryd.underlying23 (by kernel_rfl) cells_Date (hval 1 23 v1 rfl rfl) h1
  obtain ⟨a10, e10, rfl, w10⟩ := DataW.trod_int Tryd.underlying3 hy10
  obtain ⟨a11, e11, rfl, w11⟩ := DataW.trod_int Tryd.underlying3 hy11
  obtain ⟨a12, e12, rfl, w12⟩ := DataW.trod_int Tryd.underlying3 hy12
  simp at e10 e11 e12
  subst e10 e11 e12
  clear hA0
  simp only [List.append_nil] at hW'
  refine (OrthodoxMatchesReference_walk a0 a10 a11 a12 (wf_bounds w0) (wf_bounds w10) (wf_bounds w11) (wf_bounds w12) W (tab_of hL)).mono fun e W' ⟨he, hg⟩ => ?_
  subst he
  exact ⟨_, rfl, post_of_kept (pa := []) (pv := []) hW' (fun _ _ _ => (trodAll_cons_mk (shut_bool Tryd.underlying4 _) trodAll_mk0)) (fun sp _ => (trodAll_cons_mk (shut_int Tryd.underlying3 w0) (trodAll_cons_mk (shut_agg3 (y0 := (.lit (.int .i64 a10), [])) (y1 := (.lit (.int .i64 a11), [])) (y2 := (.lit (.int .i64 a12), [])) Tryd.underlying23 (by kernel_rfl) cells_Date ⟨1, by simp [DataW.trod, Tryd.underlying3, w10]⟩ ⟨1, by simp [DataW.trod, Tryd.underlying3, w11]⟩ ⟨1, by simp [DataW.trod, Tryd.underlying3, w12]⟩) trodAll_mk0))) (fun _ _ => rfl) rfl
    hg (ok_one (by kernel_rfl) rfl (okWide_bool_mk Tryd.underlying4 _))⟩
theorem OrthodoxMatchesReference_laid (os : Os) : laidMet Tryd.prog Rows.orthodoxMatchesReferenceRow.laid ((laidWorld os).forCall (fun _ _ => 0) ⟨#[], #[.int .i64 0, .agg #[.int .i64 0, .int .i64 0, .int .i64 0]], []⟩).memory :=
  laidMet_of_run' 8 (by kernel_rfl) (by kernel_rfl)
theorem OrthodoxMatchesReference_reads (os : Os) {H : Type} (enc : TypeId × Value → H) : ∃ places, DataW.whole enc Tryd.prog ((laidWorld os).forCall (fun _ _ => 0) ⟨#[], #[.int .i64 0, .agg #[.int .i64 0, .int .i64 0, .int .i64 0]], []⟩).memory Tryd.f13.params.toList Rows.orthodoxMatchesReferenceSpec.vars false (#[.int .i64 0, .agg #[.int .i64 0, .int .i64 0, .int .i64 0]] : Array Value).toList 8 = some ([.lit (.int .i64 0), .agg [.lit (.int .i64 0), .lit (.int .i64 0), .lit (.int .i64 0)]], [], places) :=
  ⟨[], by kernel_rfl⟩
set_option maxRecDepth 100000 in
theorem OrthodoxMatchesReference_lifted (os : Os) (started : os.Started) (H : Type) (enc : TypeId × Value → H) (F : Stop.Interp) :
    ReturnsInHanded {} Tryd.checked os 13 .any ((OpenSpec.ofChange Rows.orthodoxMatchesReferenceSpec).preRow enc Tryd.prog Tryd.f13 Rows.orthodoxMatchesReferenceRow.domain false Rows.orthodoxMatchesReferenceRow.laid) (((OpenSpec.ofChange Rows.orthodoxMatchesReferenceSpec).at F).post enc Tryd.prog Tryd.f13 false true false false) := by
  obtain ⟨places, hx⟩ := OrthodoxMatchesReference_reads os enc
  refine returnsInHanded_of_row (C := Tryd.checked) (s := OpenSpec.ofChange Rows.orthodoxMatchesReferenceSpec) own_knob started (by kernel_rfl) Tryd.func13
    (witness_row_at (enc := enc) (C := Tryd.checked) false (laidWorld os) #[.int .i64 0, .agg #[.int .i64 0, .int .i64 0, .int .i64 0]] rfl (by kernel_rfl) (by kernel_rfl) (by kernel_rfl)
      (OpenSpec.preRow_of_cond 8 hx (by kernel_rfl) (fun k hk => by cases hk) (by kernel_rfl) (OrthodoxMatchesReference_laid os))) ?_
  intro W base args ds gs before hval hW _ _ _ hL _ _
  exact OrthodoxMatchesReference_contract H enc W base args ds gs before hval hW hL
theorem OrthodoxMatchesReference_closed : joinedFacts Tryd.pinned.checked.prog 13 Tryd.f13 (OpenSpec.ofChange Rows.orthodoxMatchesReferenceSpec).bare Rows.orthodoxMatchesReferenceRow = true := by
  unfold joinedFacts
  simp only [Bool.and_eq_true]
  repeat' apply And.intro
  all_goals (first | with_reducible exact head_enter | (rw [head_make]; rfl) | (rw [head_final]; rfl) | (as_aux_lemma => kernel_rfl))
theorem OrthodoxMatchesReference_said : Rows.OrthodoxMatchesReferenceSaid :=
  OpenClaim.holds_of_cond 13 Tryd.f13 rfl rfl rfl rfl rfl rfl rfl ⟨rfl, rfl, rfl, rfl, rfl⟩ rfl rfl rfl rfl rfl (by kernel_rfl) Tryd.func13 OrthodoxMatchesReference_closed
    (of_decide_eq_true (by kernel_rfl)) (by unfold Func.isWrapper; first | (rw [if_pos (by decide +kernel)]; kernel_rfl) | (rw [if_neg (by decide +kernel)]; exact ⟨rfl, rfl⟩))
    (fun os started H enc _ F => by rw [OpenClaim.pre_eq_preRow]; exact OrthodoxMatchesReference_lifted os started H enc F)
theorem OrthodoxMatchesReference_plain (f : FuncId) (fn : Func) (hf : Tryd.pinned.checked.prog.funcNamed "computus/computuslaw13.OrthodoxMatchesReference" = some f) (hfn : Tryd.pinned.checked.prog.funcs[f]? = some fn) :
    false = Tryd.pinned.checked.prog.looks [] ∧ ∀ (j : Nat) t, fn.params[j]? = some t → Tryd.pinned.checked.prog.wantsStandIn t = false := by
  obtain rfl : f = 13 := Option.some.inj ((show Tryd.prog.funcNamed "computus/computuslaw13.OrthodoxMatchesReference" = some 13 by kernel_rfl).symm.trans hf) |>.symm
  obtain rfl : fn = Tryd.f13 := (Option.some.inj (Tryd.func13.symm.trans hfn)).symm
  refine ⟨by kernel_rfl, fun j t ht => ?_⟩
  rw [Tryd.params13] at ht
  have hm : t ∈ [3, 23] := by simpa using Array.mem_of_getElem? ht
  have hall : ([3, 23].all fun u => !Tryd.prog.wantsStandIn u) = true := by kernel_rfl
  exact (show Tryd.prog.wantsStandIn t = false by simpa using List.all_eq_true.1 hall t hm)
theorem OrthodoxMatchesReference_proved : Rows.OrthodoxMatchesReferenceCardSaid :=
  Claim7.holds_tied_plain_at .later [] _ _ _ _ OrthodoxMatchesReference_said (fun _ h => by cases h) (by kernel_rfl) (fun _ h => by cases h) orthodoxMatchesReference_row_tie rfl ⟨rfl, rfl⟩ (mainIs_of io_list (by kernel_rfl)) rfl OrthodoxMatchesReference_plain (by kernel_rfl)
#print axioms OrthodoxMatchesReference_proved
end Go.Proofs.YtliomdnglhjfaaaDoor

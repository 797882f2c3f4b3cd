/- 'Rows.GregorianCycleSaid': for every date, if it is valid and its year at most 999,999,600, the same date 400 years later is 146,097 days later. No condition. -/
import Derived.Test.YtolgbpnfhghgaaaGregAw
set_option linter.unusedSimpArgs false
set_option linter.unusedVariables false
set_option linter.unusedSectionVars false
namespace Go.Proofs.Ytolgbpnfhghgaaa
open Go.ChangeShapes Go.WideShapes Go.ChangeAt Go.RowKit Go.Joins
set_option maxHeartbeats 1000000

theorem num_400 (y m d : Int) : num 2 (y + 400) m d = num 2 y m d + 146097 := by
  have h1 : lp 2 (y + 400) = lp 2 y := by
    unfold lp
    simp only [show ¬ (2 : Int) = 1 from by decide, if_false]
    rw [decide_eq_decide]
    omega
  have h2 : fst 2 (y + 400) = fst 2 y + 146097 := by
    unfold fst
    simp only [show ¬ (2 : Int) = 1 from by decide, if_false]
    omega
  unfold num
  rw [h1, h2]
  omega
theorem ok_400 (y m d : Int) (h : OkD 2 y m d) (h' : y ≤ 999999600) : OkD 2 (y + 400) m d := by
  have h1 : lp 2 (y + 400) = lp 2 y := by
    unfold lp
    simp only [show ¬ (2 : Int) = 1 from by decide, if_false]
    rw [decide_eq_decide]
    omega
  unfold OkD at *
  rw [h1]
  omega
theorem GregorianCycle_walk (y m d : Int) (_b0 : -9223372036854775808 ≤ y ∧ y ≤ 9223372036854775807) (_b1 : -9223372036854775808 ≤ m ∧ m ≤ 9223372036854775807) (_b2 : -9223372036854775808 ≤ d ∧ d ≤ 9223372036854775807) (w : World) :
    Calls Try.prog 6 #[.agg #[.int .i64 y, .int .i64 m, .int .i64 d]] w fun e w' => e = .returned (.bool true) ∧ Kept w w' := by
  clear _b0 _b1 _b2
  by_cases h : OkD 2 y m d
  · by_cases h9 : 999999600 < y
    · go_enter Try.func6, Try.ntmps6
      go_wp2_with fail
      (go_at_call 9; refine (Greg_awake _).mono ?_; rintro e w1 ⟨rfl, hk1⟩)
      have hB1_1 := hk1
      obtain ⟨hc1_1, hf1_1⟩ := kept_cells hB1_1
      have hz1_0_1 : w.heap.size < w1.heap.size := by have := hB1_1.size; simp at this; omega
      go_wp2_with fail
      (go_at_call 16; refine (rValid_yes _ _ _ _ h).mono ?_; rintro e w2 ⟨rfl, hk2⟩)
      have hB1_2 := Kept.trans hB1_1 hk2
      obtain ⟨hc1_2, hf1_2⟩ := kept_cells hB1_2
      have hz1_0_2 : w.heap.size < w2.heap.size := by have := hB1_2.size; simp at this; omega
      go_wp2_with fail
      (go_at_call 9; refine (Greg_awake _).mono ?_; rintro e w3 ⟨rfl, hk3⟩)
      have hB1_3 := Kept.trans hB1_2 hk3
      obtain ⟨hc1_3, hf1_3⟩ := kept_cells hB1_3
      have hz1_0_3 : w.heap.size < w3.heap.size := by have := hB1_3.size; simp at this; omega
      go_wp2
      go_ret
      exact ⟨rfl, (by repeat (first | with_reducible exact Kept.refl _ | with_reducible assumption | with_reducible refine Kept.drew ?_ | with_reducible refine Kept.drewN ?_ _ | with_reducible refine Kept.alloc ?_ _ | (with_reducible refine Kept.setCell ?_ (by first | exact Nat.le_refl _ | omega | (simp; done) | (simp; omega)) _) | (with_reducible refine Kept.trans ?_ (by with_reducible assumption))))⟩
    · have g := ok_400 y m d h (by omega)
      have e := num_400 y m d
      have HT := fun w => ToDay_ok (y + 400) m d w g
      rw [e] at HT
      have KT := Lib.hid HT
      have hn := num_bounds 2 y m d h
      rw [fst_one, fst_top, if_neg (by decide), if_neg (by decide)] at hn
      obtain ⟨hn1, hn2⟩ := hn
      have hy := h.1
      clear HT e g
      go_enter Try.func6, Try.ntmps6
      go_wp2_with fail
      (go_at_call 9; refine (Greg_awake _).mono ?_; rintro e w1 ⟨rfl, hk1⟩)
      have hB1_1 := hk1
      obtain ⟨hc1_1, hf1_1⟩ := kept_cells hB1_1
      have hz1_0_1 : w.heap.size < w1.heap.size := by have := hB1_1.size; simp at this; omega
      go_wp2_with fail
      (go_at_call 16; refine (rValid_yes _ _ _ _ h).mono ?_; rintro e w2 ⟨rfl, hk2⟩)
      have hB1_2 := Kept.trans hB1_1 hk2
      obtain ⟨hc1_2, hf1_2⟩ := kept_cells hB1_2
      have hz1_0_2 : w.heap.size < w2.heap.size := by have := hB1_2.size; simp at this; omega
      go_wp2_with fail
      (go_at_call 10; refine (ToDay_ok _ _ _ _ h).mono ?_; rintro e w3 ⟨rfl, hk3⟩)
      have hB1_3 := Kept.trans hB1_2 hk3
      obtain ⟨hc1_3, hf1_3⟩ := kept_cells hB1_3
      have hz1_0_3 : w.heap.size < w3.heap.size := by have := hB1_3.size; simp at this; omega
      go_wp2_with fail
      (go_at_call 10; refine (KT.out _).mono ?_; rintro e w4 ⟨rfl, hk4⟩)
      go_wp2
      go_ret
      exact ⟨rfl, (by repeat (first | with_reducible exact Kept.refl _ | with_reducible assumption | with_reducible refine Kept.drew ?_ | with_reducible refine Kept.drewN ?_ _ | with_reducible refine Kept.alloc ?_ _ | (with_reducible refine Kept.setCell ?_ (by first | exact Nat.le_refl _ | omega | (simp; done) | (simp; omega)) _) | (with_reducible refine Kept.trans ?_ (by with_reducible assumption))))⟩
  · go_enter Try.func6, Try.ntmps6
    go_wp2_with fail
    (go_at_call 9; refine (Greg_awake _).mono ?_; rintro e w1 ⟨rfl, hk1⟩)
    have hB1_1 := hk1
    obtain ⟨hc1_1, hf1_1⟩ := kept_cells hB1_1
    have hz1_0_1 : w.heap.size < w1.heap.size := by have := hB1_1.size; simp at this; omega
    go_wp2_with fail
    (go_at_call 16; refine (rValid_no _ _ _ _ h).mono ?_; rintro e w2 ⟨rfl, hk2⟩)
    have hB1_2 := Kept.trans hB1_1 hk2
    obtain ⟨hc1_2, hf1_2⟩ := kept_cells hB1_2
    have hz1_0_2 : w.heap.size < w2.heap.size := by have := hB1_2.size; simp at this; omega
    go_wp2_with fail
    (go_at_call 9; refine (Greg_awake _).mono ?_; rintro e w3 ⟨rfl, hk3⟩)
    have hB1_3 := Kept.trans hB1_2 hk3
    obtain ⟨hc1_3, hf1_3⟩ := kept_cells hB1_3
    have hz1_0_3 : w.heap.size < w3.heap.size := by have := hB1_3.size; simp at this; omega
    go_wp2
    go_ret
    exact ⟨rfl, (by repeat (first | with_reducible exact Kept.refl _ | with_reducible assumption | with_reducible refine Kept.drew ?_ | with_reducible refine Kept.drewN ?_ _ | with_reducible refine Kept.alloc ?_ _ | (with_reducible refine Kept.setCell ?_ (by first | exact Nat.le_refl _ | omega | (simp; done) | (simp; omega)) _) | (with_reducible refine Kept.trans ?_ (by with_reducible assumption))))⟩

set_option maxRecDepth 100000 in
theorem GregorianCycle_lifted (os : Os) (started : os.Started) (H : Type) (enc : TypeId × Value → H) :
    ReturnsInHanded {} Try.checked os 6 .any (Rows.gregorianCycleSpec.pre6 enc Try.prog Try.f6 Rows.gregorianCycleRow.domain false) (Rows.gregorianCycleSpec.post enc Try.prog Try.f6 false true false false) := by
  refine returnsInHanded_of_change (C := Try.checked) own_knob started (by kernel_rfl) Try.func6
    (ChangeSpec.witness6 (enc := enc) (C := Try.checked) false ⟨#[], #[.agg #[.int .i64 0, .int .i64 0, .int .i64 0]], []⟩ 8 (by kernel_rfl) (by kernel_rfl) (by kernel_rfl) (by kernel_rfl)) ?_
  intro W base args ds gs before hval0 hW hcnd _
  have hval : ∀ (j : Nat) t v, Try.f6.params[j]? = some t → args[j]? = some v → Value.okWide Try.prog W .any base t v := hval0
  have hW' := hW
  obtain ⟨p, q, hA0, hV, rfl, hfz, hnd⟩ := hW
  have hA : DataW.TrodAll enc Try.prog W 0 (fun _ => true) true Try.f6.params.toList args.toList ds p := hA0
  rw [Try.params6] at hA hval
  obtain ⟨v0, vs0, d0, ds0, p0, q0, hargs, rfl, rfl, h0, r0⟩ := trodAll_cons hA
  obtain ⟨rfl, rfl, rfl⟩ := trodAll_nil r0
  obtain rfl : args = #[v0] := by cases args; simp_all
  obtain ⟨rfl, rfl⟩ := trodVars_none hV
  obtain ⟨c00, c01, c02, y00, y01, y02, m0, rfl, rfl, rfl, hy00, hy01, hy02⟩ := open_agg3 Try.underlying23 (by kernel_rfl) cells_Date (hval 0 23 v0 rfl rfl) h0
  obtain ⟨a00, e00, rfl, w00⟩ := DataW.trod_int Try.underlying3 hy00
  obtain ⟨a01, e01, rfl, w01⟩ := DataW.trod_int Try.underlying3 hy01
  obtain ⟨a02, e02, rfl, w02⟩ := DataW.trod_int Try.underlying3 hy02
  simp at e00 e01 e02
  subst e00 e01 e02
  clear hA0 hval0
  simp only [List.append_nil] at hW'
  refine (GregorianCycle_walk a00 a01 a02 (wf_bounds w00) (wf_bounds w01) (wf_bounds w02) W).mono fun e W' ⟨he, hg⟩ => ?_
  subst he
  exact ⟨_, rfl, post_of_kept (pa := []) (pv := []) hW' (fun _ _ _ => (trodAll_cons_mk (shut_bool Try.underlying4 _) trodAll_mk0)) (fun sp _ => (trodAll_cons_mk (shut_agg3 (y0 := (.lit (.int .i64 a00), [])) (y1 := (.lit (.int .i64 a01), [])) (y2 := (.lit (.int .i64 a02), [])) Try.underlying23 (by kernel_rfl) cells_Date ⟨1, by simp [DataW.trod, Try.underlying3, w00]⟩ ⟨1, by simp [DataW.trod, Try.underlying3, w01]⟩ ⟨1, by simp [DataW.trod, Try.underlying3, w02]⟩) trodAll_mk0)) (fun _ _ => rfl) rfl
    hg (ok_one (by kernel_rfl) rfl (okWide_bool_mk Try.underlying4 _))⟩
theorem GregorianCycle_proved : Rows.GregorianCycleSaid :=
  OpenClaim.holds_of_wide 6 Try.f6 rfl rfl rfl rfl rfl rfl rfl ⟨rfl, rfl, rfl, rfl, rfl⟩ rfl rfl rfl rfl rfl (by kernel_rfl) Try.func6 (by kernel_rfl)
    (of_decide_eq_true (by kernel_rfl)) (by unfold Func.isWrapper; first | (rw [if_pos (by decide +kernel)]; kernel_rfl) | (rw [if_neg (by decide +kernel)]; exact ⟨rfl, rfl⟩))
    (fun os started H enc _ => GregorianCycle_lifted os started H enc)
#print axioms GregorianCycle_proved
end Go.Proofs.Ytolgbpnfhghgaaa

/- 'Rows.GaussMatchesReferenceSaid': for every calendar and year, gauss.Trace and gauss.Date return what the reference returns. No condition. -/
import Derived.Test.YtffjbekbjbomaaaGauAw
set_option linter.unusedSimpArgs false
set_option linter.unusedVariables false
set_option linter.unusedSectionVars false
namespace Go.Proofs.Ytffjbekbjbomaaa
open Go.ChangeShapes Go.WideShapes Go.ChangeAt Go.RowKit
set_option maxHeartbeats 1000000

theorem GaussMatchesReference_walk (k y : Int) (bk : -9223372036854775808 ≤ k ∧ k ≤ 9223372036854775807) (by0 : -9223372036854775808 ≤ y ∧ y ≤ 9223372036854775807) (w : World) :
    Calls Try.prog 5 #[.int .i64 k, .int .i64 y] w fun e w' => e = .returned (.bool true) ∧ Kept w w' := by
  obtain ⟨bk1, bk2⟩ := bk
  obtain ⟨by1, by2⟩ := by0
  rcases three_ways k y with h | h | h
  · go_enter Try.func5, Try.ntmps5
    go_wp2_with fail
    (go_at_call 13; refine (Gau_awake _).mono ?_; rintro e w1 ⟨rfl, hk1⟩)
    go_wp2_with fail
    (go_at_call 14; refine (Trace_arg _ _ _ h).mono ?_; rintro e w2 ⟨rfl, hk2⟩)
    go_wp2_with fail
    (go_at_call 15; refine (Gau_arg _ _ _ h).mono ?_; rintro e w3 ⟨rfl, hk3⟩)
    have hB3_3 := hk3
    obtain ⟨hc3_3, hf3_3⟩ := kept_cells hB3_3
    have hz3_0_3 : w2.heap.size < w3.heap.size := by have := hB3_3.size; simp at this; omega
    go_wp2_with fail
    (go_at_call 11; refine (Fails_arg _ _ _ h).mono ?_; rintro e w1 ⟨rfl, rfl⟩)
    go_wp2
    go_ret
    exact ⟨rfl, (by repeat (first | with_reducible exact Kept.refl _ | with_reducible assumption | with_reducible refine Kept.drew ?_ | with_reducible refine Kept.drewN ?_ _ | with_reducible refine Kept.alloc ?_ _ | (with_reducible refine Kept.setCell ?_ (by first | exact Nat.le_refl _ | omega | (simp; done) | (simp; omega)) _) | (with_reducible refine Kept.trans ?_ (by with_reducible assumption))))⟩
  · go_enter Try.func5, Try.ntmps5
    go_wp2_with fail
    (go_at_call 13; refine (Gau_awake _).mono ?_; rintro e w1 ⟨rfl, hk1⟩)
    go_wp2_with fail
    (go_at_call 14; refine (Trace_off _ _ _ h).mono ?_; rintro e w2 ⟨rfl, hk2⟩)
    go_wp2_with fail
    (go_at_call 15; refine (Gau_off _ _ _ h).mono ?_; rintro e w3 ⟨rfl, hk3⟩)
    have hB3_3 := hk3
    obtain ⟨hc3_3, hf3_3⟩ := kept_cells hB3_3
    have hz3_0_3 : w2.heap.size < w3.heap.size := by have := hB3_3.size; simp at this; omega
    go_wp2_with fail
    (go_at_call 11; refine (Fails_off _ _ _ h).mono ?_; rintro e w1 ⟨rfl, rfl⟩)
    go_wp2
    go_ret
    exact ⟨rfl, (by repeat (first | with_reducible exact Kept.refl _ | with_reducible assumption | with_reducible refine Kept.drew ?_ | with_reducible refine Kept.drewN ?_ _ | with_reducible refine Kept.alloc ?_ _ | (with_reducible refine Kept.setCell ?_ (by first | exact Nat.le_refl _ | omega | (simp; done) | (simp; omega)) _) | (with_reducible refine Kept.trans ?_ (by with_reducible assumption))))⟩
  · go_enter Try.func5, Try.ntmps5
    go_wp2_with fail
    (go_at_call 13; refine (Gau_awake _).mono ?_; rintro e w1 ⟨rfl, hk1⟩)
    go_wp2_with fail
    (go_at_call 14; refine (Trace_ok _ _ _ h).mono ?_; rintro e w2 ⟨rfl, hk2⟩)
    go_wp2_with fail
    (go_at_call 15; refine (Gau_ok _ _ _ h).mono ?_; rintro e w3 ⟨rfl, hk3⟩)
    have hB3_3 := hk3
    obtain ⟨hc3_3, hf3_3⟩ := kept_cells hB3_3
    have hz3_0_3 : w2.heap.size < w3.heap.size := by have := hB3_3.size; simp at this; omega
    go_wp2_with fail
    (go_at_call 11; refine (Fails_ok _ _ _ h).mono ?_; rintro e w1 ⟨rfl, rfl⟩)
    go_wp2_with fail
    (go_at_call 16; refine (rTrace_ok _ _ _ h).mono ?_; rintro e w4 ⟨rfl, hk4⟩)
    have hB3_4 := Kept.trans (Kept.alloc hB3_3 _) hk4
    have hB4_4 := hk4
    obtain ⟨hc3_4, hf3_4⟩ := kept_cells hB3_4
    have hz3_0_4 : w2.heap.size < w4.heap.size := by have := hB3_4.size; simp at this; omega
    obtain ⟨hc4_4, hf4_4⟩ := kept_cells hB4_4
    have hz4_0_4 : w3.heap.size < w4.heap.size := by have := hB4_4.size; simp at this; omega
    go_wp2_with fail
    go_region_held3 (fun w' => Kept (w4.alloc (.cells #[.int .i64 (gM k y), .int .i64 (gN k y), .int .i64 (gD k y), .int .i64 (gE k y), .int .i64 (gX k y)] 37)) w' ∧ (∀ b o, b < (w4.alloc (.cells #[.int .i64 (gM k y), .int .i64 (gN k y), .int .i64 (gD k y), .int .i64 (gE k y), .int .i64 (gX k y)] 37)).heap.size → w'.cell? ⟨b, o, none⟩ = (w4.alloc (.cells #[.int .i64 (gM k y), .int .i64 (gN k y), .int .i64 (gD k y), .int .i64 (gE k y), .int .i64 (gX k y)] 37)).cell? ⟨b, o, none⟩)) (first | exact held_of (Kept.drew (Kept.refl _)) | exact held_of (Kept.trans (And.left (by assumption)) (by assumption))) (first | (go_at_call 17; refine (rGau_ok _ _ _ h).mono ?_; rintro e w1 ⟨rfl, hk1⟩))
    go_wp2
    go_ret
    exact ⟨rfl, (by repeat (first | with_reducible exact Kept.refl _ | with_reducible assumption | with_reducible refine Kept.drew ?_ | with_reducible refine Kept.drewN ?_ _ | with_reducible refine Kept.alloc ?_ _ | (with_reducible refine Kept.setCell ?_ (by first | exact Nat.le_refl _ | omega | (simp; done) | (simp; omega)) _) | (with_reducible refine Kept.trans ?_ (by with_reducible assumption))))⟩

set_option maxRecDepth 100000 in
theorem GaussMatchesReference_lifted (os : Os) (started : os.Started) (H : Type) (enc : TypeId × Value → H) :
    ReturnsInHanded {} Try.checked os 5 .any (Rows.gaussMatchesReferenceSpec.pre6 enc Try.prog Try.f5 Rows.gaussMatchesReferenceRow.domain false) (Rows.gaussMatchesReferenceSpec.post enc Try.prog Try.f5 false true false false) := by
  refine returnsInHanded_of_change (C := Try.checked) own_knob started (by kernel_rfl) Try.func5
    (ChangeSpec.witness6 (enc := enc) (C := Try.checked) false ⟨#[], #[.int .i64 0, .int .i64 0], []⟩ 8 (by kernel_rfl) (by kernel_rfl) (by kernel_rfl) (by kernel_rfl)) ?_
  intro W base args ds gs before hval0 hW hcnd _
  have hval : ∀ (j : Nat) t v, Try.f5.params[j]? = some t → args[j]? = some v → Value.okWide Try.prog W .any base t v := hval0
  have hW' := hW
  obtain ⟨p, q, hA0, hV, rfl, hfz, hnd⟩ := hW
  have hA : DataW.TrodAll enc Try.prog W 0 (fun _ => true) true Try.f5.params.toList args.toList ds p := hA0
  rw [Try.params5] at hA hval
  obtain ⟨v0, vs0, d0, ds0, p0, q0, hargs, rfl, rfl, h0, r0⟩ := trodAll_cons hA
  obtain ⟨v1, vs1, d1, ds1, p1, q1, rfl, rfl, rfl, h1, r1⟩ := trodAll_cons r0
  obtain ⟨rfl, rfl, rfl⟩ := trodAll_nil r1
  obtain rfl : args = #[v0, v1] := by cases args; simp_all
  obtain ⟨rfl, rfl⟩ := trodVars_none hV
  obtain ⟨a0, rfl, rfl, rfl, w0⟩ := open_int Try.underlying3 (hval 0 3 v0 rfl rfl) h0
  obtain ⟨a1, rfl, rfl, rfl, w1⟩ := open_int Try.underlying3 (hval 1 3 v1 rfl rfl) h1
  clear hA0 hval0
  simp only [List.append_nil] at hW'
  refine (GaussMatchesReference_walk a0 a1 (wf_bounds w0) (wf_bounds w1) W).mono fun e W' ⟨he, hg⟩ => ?_
  subst he
  exact ⟨_, rfl, post_of_kept (pa := []) (pv := []) hW' (fun _ _ _ => (trodAll_cons_mk (shut_bool Try.underlying4 _) trodAll_mk0)) (fun sp _ => (trodAll_cons_mk (shut_int Try.underlying3 w0) (trodAll_cons_mk (shut_int Try.underlying3 w1) trodAll_mk0))) (fun _ _ => rfl) rfl
    hg (ok_one (by kernel_rfl) rfl (okWide_bool_mk Try.underlying4 _))⟩
theorem GaussMatchesReference_proved : Rows.GaussMatchesReferenceSaid :=
  OpenClaim.holds_of_wide 5 Try.f5 rfl rfl rfl rfl rfl rfl rfl ⟨rfl, rfl, rfl, rfl, rfl⟩ rfl rfl rfl rfl rfl (by kernel_rfl) Try.func5 (by kernel_rfl)
    (of_decide_eq_true (by kernel_rfl)) (by unfold Func.isWrapper; first | (rw [if_pos (by decide +kernel)]; kernel_rfl) | (rw [if_neg (by decide +kernel)]; exact ⟨rfl, rfl⟩))
    (fun os started H enc _ => GaussMatchesReference_lifted os started H enc)
#print axioms GaussMatchesReference_proved
end Go.Proofs.Ytffjbekbjbomaaa

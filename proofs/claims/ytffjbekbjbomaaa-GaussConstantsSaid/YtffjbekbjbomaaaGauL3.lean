/- 'Rows.GaussConstantsSaid': M and N of the method of Gauss are the same for all years of a century, and constant in the Julian calendar. No condition. -/
import Derived.Test.YtffjbekbjbomaaaGauAw
set_option linter.unusedSimpArgs false
set_option linter.unusedVariables false
set_option linter.unusedSectionVars false
namespace Go.Proofs.Ytffjbekbjbomaaa
open Go.ChangeShapes Go.WideShapes Go.ChangeAt Go.RowKit
set_option maxHeartbeats 1000000

theorem GaussConstants_walk (c y o : Int) (bc : 0 ≤ c ∧ c ≤ 255) (by0 : -9223372036854775808 ≤ y ∧ y ≤ 9223372036854775807) (bo0 : -9223372036854775808 ≤ o ∧ o ≤ 9223372036854775807) (w : World) :
    Calls Try.prog 7 #[.int .u8 c, .int .i64 y, .int .i64 o] w fun e w' => e = .returned (.bool true) ∧ Kept w w' := by
  obtain ⟨bc1, bc2⟩ := bc
  obtain ⟨by1, by2⟩ := by0
  obtain ⟨bo1, bo2⟩ := bo0
  rcases three_ways (1 + c % 2) y with h | h | h
  · omega
  · go_enter Try.func7, Try.ntmps7
    go_wp2_with fail
    (go_at_call 13; refine (Gau_awake _).mono ?_; rintro e w1 ⟨rfl, hk1⟩)
    go_wp2_with fail
    (go_at_call 11; refine (Fails_off _ _ _ h).mono ?_; rintro e w1 ⟨rfl, rfl⟩)
    go_wp2_with fail
    (go_at_call 13; refine (Gau_awake _).mono ?_; rintro e w2 ⟨rfl, hk2⟩)
    go_wp2
    go_ret
    exact ⟨rfl, (by repeat (first | with_reducible exact Kept.refl _ | with_reducible assumption | with_reducible refine Kept.drew ?_ | with_reducible refine Kept.drewN ?_ _ | with_reducible refine Kept.alloc ?_ _ | (with_reducible refine Kept.setCell ?_ (by first | exact Nat.le_refl _ | omega | (simp; done) | (simp; omega)) _) | (with_reducible refine Kept.trans ?_ (by with_reducible assumption))))⟩
  rcases three_ways (1 + c % 2) o with g | g | g
  · omega
  · go_enter Try.func7, Try.ntmps7
    go_wp2_with fail
    (go_at_call 13; refine (Gau_awake _).mono ?_; rintro e w1 ⟨rfl, hk1⟩)
    go_wp2_with fail
    (go_at_call 11; refine (Fails_ok _ _ _ h).mono ?_; rintro e w1 ⟨rfl, rfl⟩)
    go_wp2_with fail
    (go_at_call 11; refine (Fails_off _ _ _ g).mono ?_; rintro e w1 ⟨rfl, rfl⟩)
    go_wp2_with fail
    (go_at_call 13; refine (Gau_awake _).mono ?_; rintro e w2 ⟨rfl, hk2⟩)
    go_wp2
    go_ret
    exact ⟨rfl, (by repeat (first | with_reducible exact Kept.refl _ | with_reducible assumption | with_reducible refine Kept.drew ?_ | with_reducible refine Kept.drewN ?_ _ | with_reducible refine Kept.alloc ?_ _ | (with_reducible refine Kept.setCell ?_ (by first | exact Nat.le_refl _ | omega | (simp; done) | (simp; omega)) _) | (with_reducible refine Kept.trans ?_ (by with_reducible assumption))))⟩
  obtain ⟨hM1, hM2⟩ := gM_range (1 + c % 2) y h
  obtain ⟨hN1, hN2⟩ := gN_range (1 + c % 2) y h
  have HT := fun w => Trace_ok (1 + c % 2) y w h
  have HG := fun w => Trace_ok (1 + c % 2) o w g
  by_cases hk : c % 2 = 0
  · have hM : gM (1 + c % 2) y = 15 := if_pos (by omega)
    have hN : gN (1 + c % 2) y = 6 := if_pos (by omega)
    rw [hM, hN] at HT
    have KT := Lib.hid HT
    have KG := Lib.hid HG
    clear HT HG hM hN hM1 hM2 hN1 hN2
    have hk2 : c % 2 ≤ 0 := by omega
    clear hk
    go_enter Try.func7, Try.ntmps7
    go_wp2_with fail
    (go_at_call 13; refine (Gau_awake _).mono ?_; rintro e w1 ⟨rfl, hk1⟩)
    go_wp2_with fail
    (go_at_call 11; refine (Fails_ok _ _ _ h).mono ?_; rintro e w1 ⟨rfl, rfl⟩)
    go_wp2_with fail
    (go_at_call 11; refine (Fails_ok _ _ _ g).mono ?_; rintro e w1 ⟨rfl, rfl⟩)
    go_wp2_with fail
    (go_at_call 14; refine (KT.out _).mono ?_; rintro e w2 ⟨rfl, hk2⟩)
    go_wp2_with fail
    (go_at_call 14; refine (KG.out _).mono ?_; rintro e w3 ⟨rfl, hk3⟩)
    have hB3_3 := hk3
    obtain ⟨hc3_3, hf3_3⟩ := kept_cells hB3_3
    have hz3_0_3 : w2.heap.size < w3.heap.size := by have := hB3_3.size; simp at this; omega
    go_wp2
    go_ret
    exact ⟨rfl, (by repeat (first | with_reducible exact Kept.refl _ | with_reducible assumption | with_reducible refine Kept.drew ?_ | with_reducible refine Kept.drewN ?_ _ | with_reducible refine Kept.alloc ?_ _ | (with_reducible refine Kept.setCell ?_ (by first | exact Nat.le_refl _ | omega | (simp; done) | (simp; omega)) _) | (with_reducible refine Kept.trans ?_ (by with_reducible assumption))))⟩
  · have hk2 : 1 ≤ c % 2 := by omega
    have hy : 0 ≤ y := by unfold Fit at h; omega
    have ho : 0 ≤ o := by unfold Fit at g; omega
    clear hk
    by_cases hc : y / 100 = o / 100
    · have hM : gM (1 + c % 2) o = gM (1 + c % 2) y := by unfold gM; rw [hc]
      have hN : gN (1 + c % 2) o = gN (1 + c % 2) y := by unfold gN; rw [hc]
      rw [hM, hN] at HG
      have KT := Lib.hid HT
      have KG := Lib.hid HG
      have hb : (y / 100 != o / 100) = false := by rw [hc]; simp
      clear HT HG hM hN hc
      go_enter Try.func7, Try.ntmps7
      go_wp2_with fail
      (go_at_call 13; refine (Gau_awake _).mono ?_; rintro e w1 ⟨rfl, hk1⟩)
      go_wp2_with fail
      (go_at_call 11; refine (Fails_ok _ _ _ h).mono ?_; rintro e w1 ⟨rfl, rfl⟩)
      go_wp2_with fail
      (go_at_call 11; refine (Fails_ok _ _ _ g).mono ?_; rintro e w1 ⟨rfl, rfl⟩)
      go_wp2_with fail
      (go_at_call 14; refine (KT.out _).mono ?_; rintro e w2 ⟨rfl, hk2⟩)
      go_wp2_with fail
      (go_at_call 14; refine (KG.out _).mono ?_; rintro e w3 ⟨rfl, hk3⟩)
      have hB3_3 := hk3
      obtain ⟨hc3_3, hf3_3⟩ := kept_cells hB3_3
      have hz3_0_3 : w2.heap.size < w3.heap.size := by have := hB3_3.size; simp at this; omega
      go_wp2
      go_ret
      exact ⟨rfl, (by repeat (first | with_reducible exact Kept.refl _ | with_reducible assumption | with_reducible refine Kept.drew ?_ | with_reducible refine Kept.drewN ?_ _ | with_reducible refine Kept.alloc ?_ _ | (with_reducible refine Kept.setCell ?_ (by first | exact Nat.le_refl _ | omega | (simp; done) | (simp; omega)) _) | (with_reducible refine Kept.trans ?_ (by with_reducible assumption))))⟩
    · have hb : (y / 100 != o / 100) = true := by simpa using hc
      have KT := Lib.hid HT
      have KG := Lib.hid HG
      clear HT HG hc
      go_enter Try.func7, Try.ntmps7
      go_wp2_with fail
      (go_at_call 13; refine (Gau_awake _).mono ?_; rintro e w1 ⟨rfl, hk1⟩)
      go_wp2_with fail
      (go_at_call 11; refine (Fails_ok _ _ _ h).mono ?_; rintro e w1 ⟨rfl, rfl⟩)
      go_wp2_with fail
      (go_at_call 11; refine (Fails_ok _ _ _ g).mono ?_; rintro e w1 ⟨rfl, rfl⟩)
      go_wp2_with fail
      (go_at_call 14; refine (KT.out _).mono ?_; rintro e w2 ⟨rfl, hk2⟩)
      go_wp2_with fail
      (go_at_call 14; refine (KG.out _).mono ?_; rintro e w3 ⟨rfl, hk3⟩)
      have hB3_3 := hk3
      obtain ⟨hc3_3, hf3_3⟩ := kept_cells hB3_3
      have hz3_0_3 : w2.heap.size < w3.heap.size := by have := hB3_3.size; simp at this; omega
      go_wp2
      go_ret
      exact ⟨rfl, (by repeat (first | with_reducible exact Kept.refl _ | with_reducible assumption | with_reducible refine Kept.drew ?_ | with_reducible refine Kept.drewN ?_ _ | with_reducible refine Kept.alloc ?_ _ | (with_reducible refine Kept.setCell ?_ (by first | exact Nat.le_refl _ | omega | (simp; done) | (simp; omega)) _) | (with_reducible refine Kept.trans ?_ (by with_reducible assumption))))⟩

set_option maxRecDepth 100000 in
theorem GaussConstants_lifted (os : Os) (started : os.Started) (H : Type) (enc : TypeId × Value → H) :
    ReturnsInHanded {} Try.checked os 7 .any (Rows.gaussConstantsSpec.pre6 enc Try.prog Try.f7 Rows.gaussConstantsRow.domain false) (Rows.gaussConstantsSpec.post enc Try.prog Try.f7 false true false false) := by
  refine returnsInHanded_of_change (C := Try.checked) own_knob started (by kernel_rfl) Try.func7
    (ChangeSpec.witness6 (enc := enc) (C := Try.checked) false ⟨#[], #[.int .u8 0, .int .i64 0, .int .i64 0], []⟩ 8 (by kernel_rfl) (by kernel_rfl) (by kernel_rfl) (by kernel_rfl)) ?_
  intro W base args ds gs before hval0 hW hcnd _
  have hval : ∀ (j : Nat) t v, Try.f7.params[j]? = some t → args[j]? = some v → Value.okWide Try.prog W .any base t v := hval0
  have hW' := hW
  obtain ⟨p, q, hA0, hV, rfl, hfz, hnd⟩ := hW
  have hA : DataW.TrodAll enc Try.prog W 0 (fun _ => true) true Try.f7.params.toList args.toList ds p := hA0
  rw [Try.params7] at hA hval
  obtain ⟨v0, vs0, d0, ds0, p0, q0, hargs, rfl, rfl, h0, r0⟩ := trodAll_cons hA
  obtain ⟨v1, vs1, d1, ds1, p1, q1, rfl, rfl, rfl, h1, r1⟩ := trodAll_cons r0
  obtain ⟨v2, vs2, d2, ds2, p2, q2, rfl, rfl, rfl, h2, r2⟩ := trodAll_cons r1
  obtain ⟨rfl, rfl, rfl⟩ := trodAll_nil r2
  obtain rfl : args = #[v0, v1, v2] := by cases args; simp_all
  obtain ⟨rfl, rfl⟩ := trodVars_none hV
  obtain ⟨a0, rfl, rfl, rfl, w0⟩ := open_int Try.underlying5 (hval 0 5 v0 rfl rfl) h0
  obtain ⟨a1, rfl, rfl, rfl, w1⟩ := open_int Try.underlying3 (hval 1 3 v1 rfl rfl) h1
  obtain ⟨a2, rfl, rfl, rfl, w2⟩ := open_int Try.underlying3 (hval 2 3 v2 rfl rfl) h2
  clear hA0 hval0
  simp only [List.append_nil] at hW'
  refine (GaussConstants_walk a0 a1 a2 (wf_bounds8 w0) (wf_bounds w1) (wf_bounds w2) W).mono fun e W' ⟨he, hg⟩ => ?_
  subst he
  exact ⟨_, rfl, post_of_kept (pa := []) (pv := []) hW' (fun _ _ _ => (trodAll_cons_mk (shut_bool Try.underlying4 _) trodAll_mk0)) (fun sp _ => (trodAll_cons_mk (shut_int Try.underlying5 w0) (trodAll_cons_mk (shut_int Try.underlying3 w1) (trodAll_cons_mk (shut_int Try.underlying3 w2) trodAll_mk0)))) (fun _ _ => rfl) rfl
    hg (ok_one (by kernel_rfl) rfl (okWide_bool_mk Try.underlying4 _))⟩
theorem GaussConstants_proved : Rows.GaussConstantsSaid :=
  OpenClaim.holds_of_wide 7 Try.f7 rfl rfl rfl rfl rfl rfl rfl ⟨rfl, rfl, rfl, rfl, rfl⟩ rfl rfl rfl rfl rfl (by kernel_rfl) Try.func7 (by kernel_rfl)
    (of_decide_eq_true (by kernel_rfl)) (by unfold Func.isWrapper; first | (rw [if_pos (by decide +kernel)]; kernel_rfl) | (rw [if_neg (by decide +kernel)]; exact ⟨rfl, rfl⟩))
    (fun os started H enc _ => GaussConstants_lifted os started H enc)
#print axioms GaussConstants_proved
end Go.Proofs.Ytffjbekbjbomaaa

/- 'Rows.GaussExceptionsSaid': for every calendar and year, an exception of the method of Gauss moves Easter from 26 or 25 April to a week earlier. No condition. -/
import Derived.Test.YtffjbekbjbomaaaGauAw
set_option linter.unusedSimpArgs false
set_option linter.unusedVariables false
set_option linter.unusedSectionVars false
namespace Go.Proofs.Ytffjbekbjbomaaa
open Go.ChangeShapes Go.WideShapes Go.ChangeAt Go.RowKit
set_option maxHeartbeats 1000000

theorem GaussExceptions_walk (c y : Int) (bc : 0 ≤ c ∧ c ≤ 255) (by0 : -9223372036854775808 ≤ y ∧ y ≤ 9223372036854775807) (w : World) :
    Calls Try.prog 6 #[.int .u8 c, .int .i64 y] w fun e w' => e = .returned (.bool true) ∧ Kept w w' := by
  obtain ⟨bc1, bc2⟩ := bc
  obtain ⟨by1, by2⟩ := by0
  rcases three_ways (1 + c % 2) y with h | h | h
  · omega
  · go_enter Try.func6, Try.ntmps6
    go_wp2_with fail
    (go_at_call 13; refine (Gau_awake _).mono ?_; rintro e w1 ⟨rfl, hk1⟩)
    go_wp2_with fail
    (go_at_call 11; refine (Fails_off _ _ _ h).mono ?_; rintro e w1 ⟨rfl, rfl⟩)
    go_wp2_with fail
    (go_at_call 13; refine (Gau_awake _).mono ?_; rintro e w2 ⟨rfl, hk2⟩)
    go_wp2
    go_ret
    exact ⟨rfl, (by repeat (first | with_reducible exact Kept.refl _ | with_reducible assumption | with_reducible refine Kept.drew ?_ | with_reducible refine Kept.drewN ?_ _ | with_reducible refine Kept.alloc ?_ _ | (with_reducible refine Kept.setCell ?_ (by first | exact Nat.le_refl _ | omega | (simp; done) | (simp; omega)) _) | (with_reducible refine Kept.trans ?_ (by with_reducible assumption))))⟩
  · obtain ⟨hD1, hD2⟩ := gD_range (1 + c % 2) y
    obtain ⟨hE1, hE2⟩ := gE_range (1 + c % 2) y
    have HT := fun w => Trace_ok (1 + c % 2) y w h
    have HG := fun w => Gau_ok (1 + c % 2) y w h
    rcases gX_spec (1 + c % 2) y h with ⟨hx, hd⟩ | ⟨hx, hk, hd, he⟩ | ⟨hx, hk, hd, he⟩
    · have hR : gR (1 + c % 2) y = 22 + gD (1 + c % 2) y + gE (1 + c % 2) y := if_neg (by omega)
      by_cases hn : gD (1 + c % 2) y + gE (1 + c % 2) y ≤ 9
      · have hMo : gMo (1 + c % 2) y = 3 := if_neg (by omega)
        have hDa : gDa (1 + c % 2) y = 22 + (gD (1 + c % 2) y + gE (1 + c % 2) y) := by unfold gDa; rw [if_neg (by omega)]; omega
        rw [hx] at HT
        rw [hMo, hDa] at HG
        have KT := Lib.hid HT
        have KG := Lib.hid HG
        clear HT HG hx hR hMo hDa
        go_enter Try.func6, Try.ntmps6
        go_wp2_with fail
        (go_at_call 13; refine (Gau_awake _).mono ?_; rintro e w1 ⟨rfl, hk1⟩)
        go_wp2_with fail
        (go_at_call 11; refine (Fails_ok _ _ _ h).mono ?_; rintro e w1 ⟨rfl, rfl⟩)
        go_wp2_with fail
        (go_at_call 14; refine (KT.out _).mono ?_; rintro e w2 ⟨rfl, hk2⟩)
        go_wp2_with fail
        (go_at_call 15; refine (KG.out _).mono ?_; rintro e w3 ⟨rfl, hk3⟩)
        have hB3_3 := hk3
        obtain ⟨hc3_3, hf3_3⟩ := kept_cells hB3_3
        have hz3_0_3 : w2.heap.size < w3.heap.size := by have := hB3_3.size; simp at this; omega
        go_wp2
        go_ret
        exact ⟨rfl, (by repeat (first | with_reducible exact Kept.refl _ | with_reducible assumption | with_reducible refine Kept.drew ?_ | with_reducible refine Kept.drewN ?_ _ | with_reducible refine Kept.alloc ?_ _ | (with_reducible refine Kept.setCell ?_ (by first | exact Nat.le_refl _ | omega | (simp; done) | (simp; omega)) _) | (with_reducible refine Kept.trans ?_ (by with_reducible assumption))))⟩
      · have hMo : gMo (1 + c % 2) y = 4 := if_pos (by omega)
        have hDa : gDa (1 + c % 2) y = gD (1 + c % 2) y + gE (1 + c % 2) y - 9 := by unfold gDa; rw [if_pos (by omega)]; omega
        rw [hx] at HT
        rw [hMo, hDa] at HG
        have KT := Lib.hid HT
        have KG := Lib.hid HG
        clear HT HG hx hR hMo hDa
        go_enter Try.func6, Try.ntmps6
        go_wp2_with fail
        (go_at_call 13; refine (Gau_awake _).mono ?_; rintro e w1 ⟨rfl, hk1⟩)
        go_wp2_with fail
        (go_at_call 11; refine (Fails_ok _ _ _ h).mono ?_; rintro e w1 ⟨rfl, rfl⟩)
        go_wp2_with fail
        (go_at_call 14; refine (KT.out _).mono ?_; rintro e w2 ⟨rfl, hk2⟩)
        go_wp2_with fail
        (go_at_call 15; refine (KG.out _).mono ?_; rintro e w3 ⟨rfl, hk3⟩)
        have hB3_3 := hk3
        obtain ⟨hc3_3, hf3_3⟩ := kept_cells hB3_3
        have hz3_0_3 : w2.heap.size < w3.heap.size := by have := hB3_3.size; simp at this; omega
        go_wp2
        go_ret
        exact ⟨rfl, (by repeat (first | with_reducible exact Kept.refl _ | with_reducible assumption | with_reducible refine Kept.drew ?_ | with_reducible refine Kept.drewN ?_ _ | with_reducible refine Kept.alloc ?_ _ | (with_reducible refine Kept.setCell ?_ (by first | exact Nat.le_refl _ | omega | (simp; done) | (simp; omega)) _) | (with_reducible refine Kept.trans ?_ (by with_reducible assumption))))⟩
    · have hR : gR (1 + c % 2) y = 50 := by unfold gR; rw [if_pos (by omega), hd, he]; rfl
      have hMo : gMo (1 + c % 2) y = 4 := if_pos (by omega)
      have hDa : gDa (1 + c % 2) y = 19 := by unfold gDa; rw [if_pos (by omega)]; omega
      rw [hx, hd, he] at HT
      rw [hMo, hDa] at HG
      have KT := Lib.hid HT
      have KG := Lib.hid HG
      have hk1 : (1 + c % 2 == 2) = true := by rw [hk]; rfl
      have hk2 : 1 ≤ c % 2 := by omega
      clear HT HG hx hR hMo hDa hd he hk
      go_enter Try.func6, Try.ntmps6
      go_wp2_with fail
      (go_at_call 13; refine (Gau_awake _).mono ?_; rintro e w1 ⟨rfl, hk1⟩)
      go_wp2_with fail
      (go_at_call 11; refine (Fails_ok _ _ _ h).mono ?_; rintro e w1 ⟨rfl, rfl⟩)
      go_wp2_with fail
      (go_at_call 14; refine (KT.out _).mono ?_; rintro e w2 ⟨rfl, hk2⟩)
      go_wp2_with fail
      (go_at_call 15; refine (KG.out _).mono ?_; rintro e w3 ⟨rfl, hk3⟩)
      have hB3_3 := hk3
      obtain ⟨hc3_3, hf3_3⟩ := kept_cells hB3_3
      have hz3_0_3 : w2.heap.size < w3.heap.size := by have := hB3_3.size; simp at this; omega
      go_wp2
      go_ret
      exact ⟨rfl, (by repeat (first | with_reducible exact Kept.refl _ | with_reducible assumption | with_reducible refine Kept.drew ?_ | with_reducible refine Kept.drewN ?_ _ | with_reducible refine Kept.alloc ?_ _ | (with_reducible refine Kept.setCell ?_ (by first | exact Nat.le_refl _ | omega | (simp; done) | (simp; omega)) _) | (with_reducible refine Kept.trans ?_ (by with_reducible assumption))))⟩
    · have hR : gR (1 + c % 2) y = 49 := by unfold gR; rw [if_pos (by omega), hd, he]; rfl
      have hMo : gMo (1 + c % 2) y = 4 := if_pos (by omega)
      have hDa : gDa (1 + c % 2) y = 18 := by unfold gDa; rw [if_pos (by omega)]; omega
      rw [hx, hd, he] at HT
      rw [hMo, hDa] at HG
      have KT := Lib.hid HT
      have KG := Lib.hid HG
      have hk1 : (1 + c % 2 == 2) = true := by rw [hk]; rfl
      have hk2 : 1 ≤ c % 2 := by omega
      clear HT HG hx hR hMo hDa hd he hk
      go_enter Try.func6, Try.ntmps6
      go_wp2_with fail
      (go_at_call 13; refine (Gau_awake _).mono ?_; rintro e w1 ⟨rfl, hk1⟩)
      go_wp2_with fail
      (go_at_call 11; refine (Fails_ok _ _ _ h).mono ?_; rintro e w1 ⟨rfl, rfl⟩)
      go_wp2_with fail
      (go_at_call 14; refine (KT.out _).mono ?_; rintro e w2 ⟨rfl, hk2⟩)
      go_wp2_with fail
      (go_at_call 15; refine (KG.out _).mono ?_; rintro e w3 ⟨rfl, hk3⟩)
      have hB3_3 := hk3
      obtain ⟨hc3_3, hf3_3⟩ := kept_cells hB3_3
      have hz3_0_3 : w2.heap.size < w3.heap.size := by have := hB3_3.size; simp at this; omega
      go_wp2
      go_ret
      exact ⟨rfl, (by repeat (first | with_reducible exact Kept.refl _ | with_reducible assumption | with_reducible refine Kept.drew ?_ | with_reducible refine Kept.drewN ?_ _ | with_reducible refine Kept.alloc ?_ _ | (with_reducible refine Kept.setCell ?_ (by first | exact Nat.le_refl _ | omega | (simp; done) | (simp; omega)) _) | (with_reducible refine Kept.trans ?_ (by with_reducible assumption))))⟩

set_option maxRecDepth 100000 in
theorem GaussExceptions_lifted (os : Os) (started : os.Started) (H : Type) (enc : TypeId × Value → H) :
    ReturnsInHanded {} Try.checked os 6 .any (Rows.gaussExceptionsSpec.pre6 enc Try.prog Try.f6 Rows.gaussExceptionsRow.domain false) (Rows.gaussExceptionsSpec.post enc Try.prog Try.f6 false true false false) := by
  refine returnsInHanded_of_change (C := Try.checked) own_knob started (by kernel_rfl) Try.func6
    (ChangeSpec.witness6 (enc := enc) (C := Try.checked) false ⟨#[], #[.int .u8 0, .int .i64 0], []⟩ 8 (by kernel_rfl) (by kernel_rfl) (by kernel_rfl) (by kernel_rfl)) ?_
  intro W base args ds gs before hval0 hW hcnd _
  have hval : ∀ (j : Nat) t v, Try.f6.params[j]? = some t → args[j]? = some v → Value.okWide Try.prog W .any base t v := hval0
  have hW' := hW
  obtain ⟨p, q, hA0, hV, rfl, hfz, hnd⟩ := hW
  have hA : DataW.TrodAll enc Try.prog W 0 (fun _ => true) true Try.f6.params.toList args.toList ds p := hA0
  rw [Try.params6] at hA hval
  obtain ⟨v0, vs0, d0, ds0, p0, q0, hargs, rfl, rfl, h0, r0⟩ := trodAll_cons hA
  obtain ⟨v1, vs1, d1, ds1, p1, q1, rfl, rfl, rfl, h1, r1⟩ := trodAll_cons r0
  obtain ⟨rfl, rfl, rfl⟩ := trodAll_nil r1
  obtain rfl : args = #[v0, v1] := by cases args; simp_all
  obtain ⟨rfl, rfl⟩ := trodVars_none hV
  obtain ⟨a0, rfl, rfl, rfl, w0⟩ := open_int Try.underlying5 (hval 0 5 v0 rfl rfl) h0
  obtain ⟨a1, rfl, rfl, rfl, w1⟩ := open_int Try.underlying3 (hval 1 3 v1 rfl rfl) h1
  clear hA0 hval0
  simp only [List.append_nil] at hW'
  refine (GaussExceptions_walk a0 a1 (wf_bounds8 w0) (wf_bounds w1) W).mono fun e W' ⟨he, hg⟩ => ?_
  subst he
  exact ⟨_, rfl, post_of_kept (pa := []) (pv := []) hW' (fun _ _ _ => (trodAll_cons_mk (shut_bool Try.underlying4 _) trodAll_mk0)) (fun sp _ => (trodAll_cons_mk (shut_int Try.underlying5 w0) (trodAll_cons_mk (shut_int Try.underlying3 w1) trodAll_mk0))) (fun _ _ => rfl) rfl
    hg (ok_one (by kernel_rfl) rfl (okWide_bool_mk Try.underlying4 _))⟩
theorem GaussExceptions_proved : Rows.GaussExceptionsSaid :=
  OpenClaim.holds_of_wide 6 Try.f6 rfl rfl rfl rfl rfl rfl rfl ⟨rfl, rfl, rfl, rfl, rfl⟩ rfl rfl rfl rfl rfl (by kernel_rfl) Try.func6 (by kernel_rfl)
    (of_decide_eq_true (by kernel_rfl)) (by unfold Func.isWrapper; first | (rw [if_pos (by decide +kernel)]; kernel_rfl) | (rw [if_neg (by decide +kernel)]; exact ⟨rfl, rfl⟩))
    (fun os started H enc _ => GaussExceptions_lifted os started H enc)
#print axioms GaussExceptions_proved
end Go.Proofs.Ytffjbekbjbomaaa

/- 'Rows.GregorianMatchesReferenceSaid': for every date, number, year and month, all functions of package gregorian return what the reference returns. No condition. -/
import Derived.Test.YtolgbpnfhghgaaaGregAw
set_option linter.unusedSimpArgs false
set_option linter.unusedVariables false
set_option linter.unusedSectionVars false
namespace Go.Proofs.Ytolgbpnfhghgaaa
open Go.ChangeShapes Go.WideShapes Go.ChangeAt Go.RowKit Go.Joins
set_option maxHeartbeats 1000000

instance (k y m d : Int) : Decidable (OkD k y m d) := by unfold OkD; infer_instance
/-- The number of a date, or 0. -/
def tdN (k y m d : Int) : Int := if OkD k y m d then num k y m d else 0
/-- The error of a date. -/
def tdE (k y m d : Int) : Int := if y < 1 ∨ 1000000000 < y then 1 else if OkD k y m d then 0 else 2
/-- Is it a date? -/
def okB (k y m d : Int) : Bool := decide (OkD k y m d)
theorem td_cases (k y m d : Int) : ((y < 1 ∨ 1000000000 < y) ∧ tdN k y m d = 0 ∧ tdE k y m d = 1) ∨ ((1 ≤ y ∧ y ≤ 1000000000 ∧ ¬ OkD k y m d) ∧ tdN k y m d = 0 ∧ tdE k y m d = 2) ∨ (OkD k y m d ∧ tdN k y m d = num k y m d ∧ tdE k y m d = 0) := by
  unfold tdN tdE
  by_cases h : OkD k y m d
  · have h1 := h.1
    have h2 := h.2.1
    exact .inr (.inr ⟨h, if_pos h, by rw [if_neg (by omega), if_pos h]⟩)
  · by_cases h' : 1 ≤ y ∧ y ≤ 1000000000
    · exact .inr (.inl ⟨⟨h'.1, h'.2, h⟩, if_neg h, by rw [if_neg (by omega), if_neg h]⟩)
    · exact .inl ⟨by omega, if_neg h, if_pos (by omega)⟩
theorem ToDay_all (y m d : Int) (w : World) :
    Calls Try.prog 10 #[.agg #[.int .i64 y, .int .i64 m, .int .i64 d]] w fun e w' => e = .returned (.tuple #[.int .i64 (tdN 2 y m d), .int .i64 (tdE 2 y m d)]) ∧ Kept w w' := by
  rcases td_cases 2 y m d with ⟨h, e1, e2⟩ | ⟨⟨h1, h2, h⟩, e1, e2⟩ | ⟨h, e1, e2⟩
  · rw [e1, e2]; exact ToDay_range _ _ _ _ h
  · rw [e1, e2]; exact ToDay_date _ _ _ _ h1 h2 h
  · rw [e1, e2]; exact ToDay_ok _ _ _ _ h
theorem rToDay_all (y m d : Int) (w : World) :
    Calls Try.prog 20 #[.agg #[.int .i64 y, .int .i64 m, .int .i64 d]] w fun e w' => e = .returned (.tuple #[.int .i64 (tdN 2 y m d), .int .i64 (tdE 2 y m d)]) ∧ Kept w w' := by
  rcases td_cases 2 y m d with ⟨h, e1, e2⟩ | ⟨⟨h1, h2, h⟩, e1, e2⟩ | ⟨h, e1, e2⟩
  · rw [e1, e2]; exact rToDay_range _ _ _ _ h
  · rw [e1, e2]; exact rToDay_date _ _ _ _ h1 h2 h
  · rw [e1, e2]; exact rToDay_ok _ _ _ _ h
theorem Valid_all (y m d : Int) (w : World) :
    Calls Try.prog 12 #[.agg #[.int .i64 y, .int .i64 m, .int .i64 d]] w fun e w' => e = .returned (.bool (okB 2 y m d)) ∧ Kept w w' := by
  by_cases h : OkD 2 y m d
  · rw [show okB 2 y m d = true from decide_eq_true h]; exact Valid_yes _ _ _ _ h
  · rw [show okB 2 y m d = false from decide_eq_false h]; exact Valid_no _ _ _ _ h
theorem rValid_all (y m d : Int) (w : World) :
    Calls Try.prog 16 #[.agg #[.int .i64 y, .int .i64 m, .int .i64 d]] w fun e w' => e = .returned (.bool (okB 2 y m d)) ∧ Kept w w' := by
  by_cases h : OkD 2 y m d
  · rw [show okB 2 y m d = true from decide_eq_true h]; exact rValid_yes _ _ _ _ h
  · rw [show okB 2 y m d = false from decide_eq_false h]; exact rValid_no _ _ _ _ h
/-- The date of a number, or zeros, and the error. -/
def FdRel (n y m d e : Int) : Prop := ((n < 1 ∨ 365242500001 ≤ n) ∧ y = 0 ∧ m = 0 ∧ d = 0 ∧ e = 1) ∨ (OkD 2 y m d ∧ num 2 y m d = n ∧ e = 0)
theorem fd_some (n : Int) : ∃ y m d e, FdRel n y m d e := by
  by_cases h : n < 1 ∨ 365242500001 ≤ n
  · exact ⟨0, 0, 0, 1, .inl ⟨h, rfl, rfl, rfl, rfl⟩⟩
  · obtain ⟨y, m, d, h1, h2⟩ := date_of 2 n (by rw [fst_one, if_neg (by decide)]; omega) (by rw [fst_top, if_neg (by decide)]; omega)
    exact ⟨y, m, d, 0, .inr ⟨h1, h2, rfl⟩⟩
theorem FromDay_all (n y m d e : Int) (w : World) (h : FdRel n y m d e) :
    Calls Try.prog 11 #[.int .i64 n] w fun e' w' => e' = .returned (.tuple #[.agg #[.int .i64 y, .int .i64 m, .int .i64 d], .int .i64 e]) ∧ Kept w w' := by
  rcases h with ⟨h, rfl, rfl, rfl, rfl⟩ | ⟨h, h', rfl⟩
  · exact FromDay_no _ _ h
  · exact FromDay_ok _ _ _ _ _ h h'
theorem rFromDay_all (n y m d e : Int) (w : World) (h : FdRel n y m d e) :
    Calls Try.prog 21 #[.int .i64 n] w fun e' w' => e' = .returned (.tuple #[.agg #[.int .i64 y, .int .i64 m, .int .i64 d], .int .i64 e]) ∧ Kept w w' := by
  rcases h with ⟨h, rfl, rfl, rfl, rfl⟩ | ⟨h, h', rfl⟩
  · exact rFromDay_no _ _ h
  · exact rFromDay_ok _ _ _ _ _ h h'

theorem GregorianMatchesReference_walk (y m d n z q : Int) (_b0 : -9223372036854775808 ≤ y ∧ y ≤ 9223372036854775807) (_b1 : -9223372036854775808 ≤ m ∧ m ≤ 9223372036854775807) (_b2 : -9223372036854775808 ≤ d ∧ d ≤ 9223372036854775807) (_b3 : -9223372036854775808 ≤ n ∧ n ≤ 9223372036854775807) (_b4 : -9223372036854775808 ≤ z ∧ z ≤ 9223372036854775807) (_b5 : -9223372036854775808 ≤ q ∧ q ≤ 9223372036854775807) (w : World) :
    Calls Try.prog 8 #[.agg #[.int .i64 y, .int .i64 m, .int .i64 d], .int .i64 n, .int .i64 z, .int .i64 q] w fun e w' => e = .returned (.bool true) ∧ Kept w w' := by
  clear _b0 _b1 _b2 _b3 _b5
  obtain ⟨z1, z2⟩ := _b4
  obtain ⟨fy, fm, fd, fe, hf⟩ := fd_some n
  have HF := Lib.hid hf
  clear hf
  by_cases h : 1 ≤ z ∧ z ≤ 1000000000
  · obtain ⟨h1, h2⟩ := h
    go_enter Try.func8, Try.ntmps8
    go_wp2_with fail
    (go_at_call 9; refine (Greg_awake _).mono ?_; rintro e w1 ⟨rfl, hk1⟩)
    have hB1_1 := hk1
    obtain ⟨hc1_1, hf1_1⟩ := kept_cells hB1_1
    have hz1_0_1 : w.heap.size < w1.heap.size := by have := hB1_1.size; simp at this; omega
    go_wp2_with fail
    (go_at_call 10; refine (ToDay_all _ _ _ _).mono ?_; rintro e w2 ⟨rfl, hk2⟩)
    have hB1_2 := Kept.trans hB1_1 hk2
    obtain ⟨hc1_2, hf1_2⟩ := kept_cells hB1_2
    have hz1_0_2 : w.heap.size < w2.heap.size := by have := hB1_2.size; simp at this; omega
    go_wp2_with fail
    (go_at_call 20; refine (rToDay_all _ _ _ _).mono ?_; rintro e w3 ⟨rfl, hk3⟩)
    have hB1_3 := Kept.trans hB1_2 hk3
    obtain ⟨hc1_3, hf1_3⟩ := kept_cells hB1_3
    have hz1_0_3 : w.heap.size < w3.heap.size := by have := hB1_3.size; simp at this; omega
    go_wp2_with fail
    (go_at_call 11; refine (FromDay_all _ _ _ _ _ _ HF.out).mono ?_; rintro e w4 ⟨rfl, hk4⟩)
    have hB1_4 := Kept.trans hB1_3 hk4
    obtain ⟨hc1_4, hf1_4⟩ := kept_cells hB1_4
    have hz1_0_4 : w.heap.size < w4.heap.size := by have := hB1_4.size; simp at this; omega
    go_wp2_with fail
    (go_at_call 21; refine (rFromDay_all _ _ _ _ _ _ HF.out).mono ?_; rintro e w5 ⟨rfl, hk5⟩)
    have hB1_5 := Kept.trans (Kept.alloc hB1_4 _) hk5
    have hB5_5 := hk5
    obtain ⟨hc1_5, hf1_5⟩ := kept_cells hB1_5
    have hz1_0_5 : w.heap.size < w5.heap.size := by have := hB1_5.size; simp at this; omega
    obtain ⟨hc5_5, hf5_5⟩ := kept_cells hB5_5
    have hz5_0_5 : w4.heap.size < w5.heap.size := by have := hB5_5.size; simp at this; omega
    go_wp2_with fail
    (go_at_call 22; refine (First_ok _ _ h1 h2).mono ?_; rintro e w1 ⟨rfl, rfl⟩)
    go_wp2_with fail
    (go_at_call 18; refine (In_yes _ _ h1 h2).mono ?_; rintro e w1 ⟨rfl, rfl⟩)
    go_wp2_with fail
    (go_at_call 13; refine (rFirst_any _ _ h1 (by omega)).mono ?_; rintro e w1 ⟨rfl, rfl⟩)
    go_wp2_with fail
    go_region_held3 (fun w' => Kept (w5.alloc (.cells #[.int .i64 fy, .int .i64 fm, .int .i64 fd] 23)) w' ∧ (∀ b o, b < (w5.alloc (.cells #[.int .i64 fy, .int .i64 fm, .int .i64 fd] 23)).heap.size → w'.cell? ⟨b, o, none⟩ = (w5.alloc (.cells #[.int .i64 fy, .int .i64 fm, .int .i64 fd] 23)).cell? ⟨b, o, none⟩)) (first | exact held_of (Kept.drew (Kept.refl _)) | exact held_of (Kept.trans (And.left (by assumption)) (by assumption))) (first | (go_at_call 15; refine (Leap_any _ _).mono ?_; rintro e w1 ⟨rfl, rfl⟩) | (go_at_call 23; refine (rLeap_any _ _ (by omega) (by omega)).mono ?_; rintro e w1 ⟨rfl, rfl⟩) | (go_at_call 19; refine (Length_any _ _ _).mono ?_; rintro e w1 ⟨rfl, rfl⟩) | (go_at_call 24; refine (rLen_any _ _ _).mono ?_; rintro e w1 ⟨rfl, rfl⟩) | (go_at_call 12; refine (Valid_all _ _ _ _).mono ?_; rintro e w1 ⟨rfl, hk1⟩) | (go_at_call 16; refine (rValid_all _ _ _ _).mono ?_; rintro e w1 ⟨rfl, hk1⟩))
    go_wp2
    go_ret
    exact ⟨rfl, (by repeat (first | with_reducible exact Kept.refl _ | with_reducible assumption | with_reducible refine Kept.drew ?_ | with_reducible refine Kept.drewN ?_ _ | with_reducible refine Kept.alloc ?_ _ | (with_reducible refine Kept.setCell ?_ (by first | exact Nat.le_refl _ | omega | (simp; done) | (simp; omega)) _) | (with_reducible refine Kept.trans ?_ (by with_reducible assumption))))⟩
  · go_enter Try.func8, Try.ntmps8
    go_wp2_with fail
    (go_at_call 9; refine (Greg_awake _).mono ?_; rintro e w1 ⟨rfl, hk1⟩)
    have hB1_1 := hk1
    obtain ⟨hc1_1, hf1_1⟩ := kept_cells hB1_1
    have hz1_0_1 : w.heap.size < w1.heap.size := by have := hB1_1.size; simp at this; omega
    go_wp2_with fail
    (go_at_call 10; refine (ToDay_all _ _ _ _).mono ?_; rintro e w2 ⟨rfl, hk2⟩)
    have hB1_2 := Kept.trans hB1_1 hk2
    obtain ⟨hc1_2, hf1_2⟩ := kept_cells hB1_2
    have hz1_0_2 : w.heap.size < w2.heap.size := by have := hB1_2.size; simp at this; omega
    go_wp2_with fail
    (go_at_call 20; refine (rToDay_all _ _ _ _).mono ?_; rintro e w3 ⟨rfl, hk3⟩)
    have hB1_3 := Kept.trans hB1_2 hk3
    obtain ⟨hc1_3, hf1_3⟩ := kept_cells hB1_3
    have hz1_0_3 : w.heap.size < w3.heap.size := by have := hB1_3.size; simp at this; omega
    go_wp2_with fail
    (go_at_call 11; refine (FromDay_all _ _ _ _ _ _ HF.out).mono ?_; rintro e w4 ⟨rfl, hk4⟩)
    have hB1_4 := Kept.trans hB1_3 hk4
    obtain ⟨hc1_4, hf1_4⟩ := kept_cells hB1_4
    have hz1_0_4 : w.heap.size < w4.heap.size := by have := hB1_4.size; simp at this; omega
    go_wp2_with fail
    (go_at_call 21; refine (rFromDay_all _ _ _ _ _ _ HF.out).mono ?_; rintro e w5 ⟨rfl, hk5⟩)
    have hB1_5 := Kept.trans (Kept.alloc hB1_4 _) hk5
    have hB5_5 := hk5
    obtain ⟨hc1_5, hf1_5⟩ := kept_cells hB1_5
    have hz1_0_5 : w.heap.size < w5.heap.size := by have := hB1_5.size; simp at this; omega
    obtain ⟨hc5_5, hf5_5⟩ := kept_cells hB5_5
    have hz5_0_5 : w4.heap.size < w5.heap.size := by have := hB5_5.size; simp at this; omega
    go_wp2_with fail
    (go_at_call 22; refine (First_no _ _ (by omega)).mono ?_; rintro e w1 ⟨rfl, rfl⟩)
    go_wp2_with fail
    (go_at_call 18; refine (In_no _ _ (by omega)).mono ?_; rintro e w1 ⟨rfl, rfl⟩)
    go_wp2_with fail
    go_region_held3 (fun w' => Kept (w5.alloc (.cells #[.int .i64 fy, .int .i64 fm, .int .i64 fd] 23)) w' ∧ (∀ b o, b < (w5.alloc (.cells #[.int .i64 fy, .int .i64 fm, .int .i64 fd] 23)).heap.size → w'.cell? ⟨b, o, none⟩ = (w5.alloc (.cells #[.int .i64 fy, .int .i64 fm, .int .i64 fd] 23)).cell? ⟨b, o, none⟩)) (first | exact held_of (Kept.drew (Kept.refl _)) | exact held_of (Kept.trans (And.left (by assumption)) (by assumption))) (first | (go_at_call 15; refine (Leap_any _ _).mono ?_; rintro e w1 ⟨rfl, rfl⟩) | (go_at_call 23; refine (rLeap_any _ _ (by omega) (by omega)).mono ?_; rintro e w1 ⟨rfl, rfl⟩) | (go_at_call 19; refine (Length_any _ _ _).mono ?_; rintro e w1 ⟨rfl, rfl⟩) | (go_at_call 24; refine (rLen_any _ _ _).mono ?_; rintro e w1 ⟨rfl, rfl⟩) | (go_at_call 12; refine (Valid_all _ _ _ _).mono ?_; rintro e w1 ⟨rfl, hk1⟩) | (go_at_call 16; refine (rValid_all _ _ _ _).mono ?_; rintro e w1 ⟨rfl, hk1⟩))
    go_wp2
    go_ret
    exact ⟨rfl, (by repeat (first | with_reducible exact Kept.refl _ | with_reducible assumption | with_reducible refine Kept.drew ?_ | with_reducible refine Kept.drewN ?_ _ | with_reducible refine Kept.alloc ?_ _ | (with_reducible refine Kept.setCell ?_ (by first | exact Nat.le_refl _ | omega | (simp; done) | (simp; omega)) _) | (with_reducible refine Kept.trans ?_ (by with_reducible assumption))))⟩

set_option maxRecDepth 100000 in
theorem GregorianMatchesReference_lifted (os : Os) (started : os.Started) (H : Type) (enc : TypeId × Value → H) :
    ReturnsInHanded {} Try.checked os 8 .any (Rows.gregorianMatchesReferenceSpec.pre6 enc Try.prog Try.f8 Rows.gregorianMatchesReferenceRow.domain false) (Rows.gregorianMatchesReferenceSpec.post enc Try.prog Try.f8 false true false false) := by
  refine returnsInHanded_of_change (C := Try.checked) own_knob started (by kernel_rfl) Try.func8
    (ChangeSpec.witness6 (enc := enc) (C := Try.checked) false ⟨#[], #[.agg #[.int .i64 0, .int .i64 0, .int .i64 0], .int .i64 0, .int .i64 0, .int .i64 0], []⟩ 8 (by kernel_rfl) (by kernel_rfl) (by kernel_rfl) (by kernel_rfl)) ?_
  intro W base args ds gs before hval0 hW hcnd _
  have hval : ∀ (j : Nat) t v, Try.f8.params[j]? = some t → args[j]? = some v → Value.okWide Try.prog W .any base t v := hval0
  have hW' := hW
  obtain ⟨p, q, hA0, hV, rfl, hfz, hnd⟩ := hW
  have hA : DataW.TrodAll enc Try.prog W 0 (fun _ => true) true Try.f8.params.toList args.toList ds p := hA0
  rw [Try.params8] at hA hval
  obtain ⟨v0, vs0, d0, ds0, p0, q0, hargs, rfl, rfl, h0, r0⟩ := trodAll_cons hA
  obtain ⟨v1, vs1, d1, ds1, p1, q1, rfl, rfl, rfl, h1, r1⟩ := trodAll_cons r0
  obtain ⟨v2, vs2, d2, ds2, p2, q2, rfl, rfl, rfl, h2, r2⟩ := trodAll_cons r1
  obtain ⟨v3, vs3, d3, ds3, p3, q3, rfl, rfl, rfl, h3, r3⟩ := trodAll_cons r2
  obtain ⟨rfl, rfl, rfl⟩ := trodAll_nil r3
  obtain rfl : args = #[v0, v1, v2, v3] := by cases args; simp_all
  obtain ⟨rfl, rfl⟩ := trodVars_none hV
  obtain ⟨c00, c01, c02, y00, y01, y02, m0, rfl, rfl, rfl, hy00, hy01, hy02⟩ := open_agg3 Try.underlying23 (by kernel_rfl) cells_Date (hval 0 23 v0 rfl rfl) h0
  obtain ⟨a00, e00, rfl, w00⟩ := DataW.trod_int Try.underlying3 hy00
  obtain ⟨a01, e01, rfl, w01⟩ := DataW.trod_int Try.underlying3 hy01
  obtain ⟨a02, e02, rfl, w02⟩ := DataW.trod_int Try.underlying3 hy02
  simp at e00 e01 e02
  subst e00 e01 e02
  obtain ⟨a1, rfl, rfl, rfl, w1⟩ := open_int Try.underlying3 (hval 1 3 v1 rfl rfl) h1
  obtain ⟨a2, rfl, rfl, rfl, w2⟩ := open_int Try.underlying3 (hval 2 3 v2 rfl rfl) h2
  obtain ⟨a3, rfl, rfl, rfl, w3⟩ := open_int Try.underlying3 (hval 3 3 v3 rfl rfl) h3
  clear hA0 hval0
  simp only [List.append_nil] at hW'
  refine (GregorianMatchesReference_walk a00 a01 a02 a1 a2 a3 (wf_bounds w00) (wf_bounds w01) (wf_bounds w02) (wf_bounds w1) (wf_bounds w2) (wf_bounds w3) W).mono fun e W' ⟨he, hg⟩ => ?_
  subst he
  exact ⟨_, rfl, post_of_kept (pa := []) (pv := []) hW' (fun _ _ _ => (trodAll_cons_mk (shut_bool Try.underlying4 _) trodAll_mk0)) (fun sp _ => (trodAll_cons_mk (shut_agg3 (y0 := (.lit (.int .i64 a00), [])) (y1 := (.lit (.int .i64 a01), [])) (y2 := (.lit (.int .i64 a02), [])) Try.underlying23 (by kernel_rfl) cells_Date ⟨1, by simp [DataW.trod, Try.underlying3, w00]⟩ ⟨1, by simp [DataW.trod, Try.underlying3, w01]⟩ ⟨1, by simp [DataW.trod, Try.underlying3, w02]⟩) (trodAll_cons_mk (shut_int Try.underlying3 w1) (trodAll_cons_mk (shut_int Try.underlying3 w2) (trodAll_cons_mk (shut_int Try.underlying3 w3) trodAll_mk0))))) (fun _ _ => rfl) rfl
    hg (ok_one (by kernel_rfl) rfl (okWide_bool_mk Try.underlying4 _))⟩
theorem GregorianMatchesReference_proved : Rows.GregorianMatchesReferenceSaid :=
  OpenClaim.holds_of_wide 8 Try.f8 rfl rfl rfl rfl rfl rfl rfl ⟨rfl, rfl, rfl, rfl, rfl⟩ rfl rfl rfl rfl rfl (by kernel_rfl) Try.func8 (by kernel_rfl)
    (of_decide_eq_true (by kernel_rfl)) (by unfold Func.isWrapper; first | (rw [if_pos (by decide +kernel)]; kernel_rfl) | (rw [if_neg (by decide +kernel)]; exact ⟨rfl, rfl⟩))
    (fun os started H enc _ => GregorianMatchesReference_lifted os started H enc)
#print axioms GregorianMatchesReference_proved
end Go.Proofs.Ytolgbpnfhghgaaa

/- 'Rows.GregorianRoundTripSaid': for every date and number, the date of the number of a valid date is that date, and the number of the date of a number is that number. No condition. -/
import Derived.Test.YtolgbpnfhghgaaaGregAw
set_option linter.unusedSimpArgs false
set_option linter.unusedVariables false
set_option linter.unusedSectionVars false
namespace Go.Proofs.Ytolgbpnfhghgaaa
open Go.ChangeShapes Go.WideShapes Go.ChangeAt Go.RowKit Go.Joins
set_option maxHeartbeats 1000000

theorem GregorianRoundTrip_walk (y m d n : Int) (_b0 : -9223372036854775808 ≤ y ∧ y ≤ 9223372036854775807) (_b1 : -9223372036854775808 ≤ m ∧ m ≤ 9223372036854775807) (_b2 : -9223372036854775808 ≤ d ∧ d ≤ 9223372036854775807) (_b3 : -9223372036854775808 ≤ n ∧ n ≤ 9223372036854775807) (w : World) :
    Calls Try.prog 3 #[.agg #[.int .i64 y, .int .i64 m, .int .i64 d], .int .i64 n] w fun e w' => e = .returned (.bool true) ∧ Kept w w' := by
  clear _b0 _b1 _b2
  obtain ⟨n1, n2⟩ := _b3
  have hT : (y < 1 ∨ 1000000000 < y) ∨ (1 ≤ y ∧ y ≤ 1000000000 ∧ ¬ OkD 2 y m d) ∨ OkD 2 y m d := by
    by_cases h : OkD 2 y m d
    · exact .inr (.inr h)
    · by_cases h' : 1 ≤ y ∧ y ≤ 1000000000
      · exact .inr (.inl ⟨h'.1, h'.2, h⟩)
      · exact .inl (by omega)
  have hN : (n < 1 ∨ 365242500001 ≤ n) ∨ ∃ y' m' d', OkD 2 y' m' d' ∧ num 2 y' m' d' = n := by
    by_cases h : n < 1 ∨ 365242500001 ≤ n
    · exact .inl h
    · exact .inr (date_of 2 n (by rw [fst_one, if_neg (by decide)]; omega) (by rw [fst_top, if_neg (by decide)]; omega))
  rcases hT with h | ⟨h1, h2, h⟩ | h <;> rcases hN with g | ⟨y', m', d', g, ge⟩
  · skip
    go_enter Try.func3, Try.ntmps3
    go_wp2_with fail
    (go_at_call 9; refine (Greg_awake _).mono ?_; rintro e w1 ⟨rfl, hk1⟩)
    have hB1_1 := hk1
    obtain ⟨hc1_1, hf1_1⟩ := kept_cells hB1_1
    have hz1_0_1 : w.heap.size < w1.heap.size := by have := hB1_1.size; simp at this; omega
    go_wp2_with fail
    (go_at_call 10; refine (ToDay_range _ _ _ _ h).mono ?_; rintro e w2 ⟨rfl, hk2⟩)
    have hB1_2 := Kept.trans hB1_1 hk2
    obtain ⟨hc1_2, hf1_2⟩ := kept_cells hB1_2
    have hz1_0_2 : w.heap.size < w2.heap.size := by have := hB1_2.size; simp at this; omega
    go_wp2_with fail
    (go_at_call 11; refine (FromDay_no _ _ g).mono ?_; rintro e w3 ⟨rfl, hk3⟩)
    have hB1_3 := Kept.trans hB1_2 hk3
    obtain ⟨hc1_3, hf1_3⟩ := kept_cells hB1_3
    have hz1_0_3 : w.heap.size < w3.heap.size := by have := hB1_3.size; simp at this; omega
    go_wp2
    go_ret
    exact ⟨rfl, (by repeat (first | with_reducible exact Kept.refl _ | with_reducible assumption | with_reducible refine Kept.drew ?_ | with_reducible refine Kept.drewN ?_ _ | with_reducible refine Kept.alloc ?_ _ | (with_reducible refine Kept.setCell ?_ (by first | exact Nat.le_refl _ | omega | (simp; done) | (simp; omega)) _) | (with_reducible refine Kept.trans ?_ (by with_reducible assumption))))⟩
  · skip
    have GE := Lib.hid ge
    clear ge
    go_enter Try.func3, Try.ntmps3
    go_wp2_with fail
    (go_at_call 9; refine (Greg_awake _).mono ?_; rintro e w1 ⟨rfl, hk1⟩)
    have hB1_1 := hk1
    obtain ⟨hc1_1, hf1_1⟩ := kept_cells hB1_1
    have hz1_0_1 : w.heap.size < w1.heap.size := by have := hB1_1.size; simp at this; omega
    go_wp2_with fail
    (go_at_call 10; refine (ToDay_range _ _ _ _ h).mono ?_; rintro e w2 ⟨rfl, hk2⟩)
    have hB1_2 := Kept.trans hB1_1 hk2
    obtain ⟨hc1_2, hf1_2⟩ := kept_cells hB1_2
    have hz1_0_2 : w.heap.size < w2.heap.size := by have := hB1_2.size; simp at this; omega
    go_wp2_with fail
    (go_at_call 11; refine (FromDay_ok _ _ _ _ _ g GE.out).mono ?_; rintro e w3 ⟨rfl, hk3⟩)
    have hB1_3 := Kept.trans hB1_2 hk3
    obtain ⟨hc1_3, hf1_3⟩ := kept_cells hB1_3
    have hz1_0_3 : w.heap.size < w3.heap.size := by have := hB1_3.size; simp at this; omega
    go_wp2_with fail
    (go_at_call 10; refine (ToDay_ok _ _ _ _ g).mono ?_; rintro e w4 ⟨rfl, hk4⟩)
    have hB1_4 := Kept.trans (Kept.alloc hB1_3 _) hk4
    have hB4_4 := hk4
    obtain ⟨hc1_4, hf1_4⟩ := kept_cells hB1_4
    have hz1_0_4 : w.heap.size < w4.heap.size := by have := hB1_4.size; simp at this; omega
    obtain ⟨hc4_4, hf4_4⟩ := kept_cells hB4_4
    have hz4_0_4 : w3.heap.size < w4.heap.size := by have := hB4_4.size; simp at this; omega
    go_wp2_with fail
    (go_at_call 12; refine (Valid_yes _ _ _ _ g).mono ?_; rintro e w5 ⟨rfl, hk5⟩)
    have hB1_5 := Kept.trans hB1_4 hk5
    have hB4_5 := Kept.trans hB4_4 hk5
    obtain ⟨hc1_5, hf1_5⟩ := kept_cells hB1_5
    have hz1_0_5 : w.heap.size < w5.heap.size := by have := hB1_5.size; simp at this; omega
    obtain ⟨hc4_5, hf4_5⟩ := kept_cells hB4_5
    have hz4_0_5 : w3.heap.size < w5.heap.size := by have := hB4_5.size; simp at this; omega
    go_wp2
    go_ret
    exact ⟨rfl, (by repeat (first | with_reducible exact Kept.refl _ | with_reducible assumption | with_reducible refine Kept.drew ?_ | with_reducible refine Kept.drewN ?_ _ | with_reducible refine Kept.alloc ?_ _ | (with_reducible refine Kept.setCell ?_ (by first | exact Nat.le_refl _ | omega | (simp; done) | (simp; omega)) _) | (with_reducible refine Kept.trans ?_ (by with_reducible assumption))))⟩
  · skip
    go_enter Try.func3, Try.ntmps3
    go_wp2_with fail
    (go_at_call 9; refine (Greg_awake _).mono ?_; rintro e w1 ⟨rfl, hk1⟩)
    have hB1_1 := hk1
    obtain ⟨hc1_1, hf1_1⟩ := kept_cells hB1_1
    have hz1_0_1 : w.heap.size < w1.heap.size := by have := hB1_1.size; simp at this; omega
    go_wp2_with fail
    (go_at_call 10; refine (ToDay_date _ _ _ _ h1 h2 h).mono ?_; rintro e w2 ⟨rfl, hk2⟩)
    have hB1_2 := Kept.trans hB1_1 hk2
    obtain ⟨hc1_2, hf1_2⟩ := kept_cells hB1_2
    have hz1_0_2 : w.heap.size < w2.heap.size := by have := hB1_2.size; simp at this; omega
    go_wp2_with fail
    (go_at_call 11; refine (FromDay_no _ _ g).mono ?_; rintro e w3 ⟨rfl, hk3⟩)
    have hB1_3 := Kept.trans hB1_2 hk3
    obtain ⟨hc1_3, hf1_3⟩ := kept_cells hB1_3
    have hz1_0_3 : w.heap.size < w3.heap.size := by have := hB1_3.size; simp at this; omega
    go_wp2
    go_ret
    exact ⟨rfl, (by repeat (first | with_reducible exact Kept.refl _ | with_reducible assumption | with_reducible refine Kept.drew ?_ | with_reducible refine Kept.drewN ?_ _ | with_reducible refine Kept.alloc ?_ _ | (with_reducible refine Kept.setCell ?_ (by first | exact Nat.le_refl _ | omega | (simp; done) | (simp; omega)) _) | (with_reducible refine Kept.trans ?_ (by with_reducible assumption))))⟩
  · skip
    have GE := Lib.hid ge
    clear ge
    go_enter Try.func3, Try.ntmps3
    go_wp2_with fail
    (go_at_call 9; refine (Greg_awake _).mono ?_; rintro e w1 ⟨rfl, hk1⟩)
    have hB1_1 := hk1
    obtain ⟨hc1_1, hf1_1⟩ := kept_cells hB1_1
    have hz1_0_1 : w.heap.size < w1.heap.size := by have := hB1_1.size; simp at this; omega
    go_wp2_with fail
    (go_at_call 10; refine (ToDay_date _ _ _ _ h1 h2 h).mono ?_; rintro e w2 ⟨rfl, hk2⟩)
    have hB1_2 := Kept.trans hB1_1 hk2
    obtain ⟨hc1_2, hf1_2⟩ := kept_cells hB1_2
    have hz1_0_2 : w.heap.size < w2.heap.size := by have := hB1_2.size; simp at this; omega
    go_wp2_with fail
    (go_at_call 11; refine (FromDay_ok _ _ _ _ _ g GE.out).mono ?_; rintro e w3 ⟨rfl, hk3⟩)
    have hB1_3 := Kept.trans hB1_2 hk3
    obtain ⟨hc1_3, hf1_3⟩ := kept_cells hB1_3
    have hz1_0_3 : w.heap.size < w3.heap.size := by have := hB1_3.size; simp at this; omega
    go_wp2_with fail
    (go_at_call 10; refine (ToDay_ok _ _ _ _ g).mono ?_; rintro e w4 ⟨rfl, hk4⟩)
    have hB1_4 := Kept.trans (Kept.alloc hB1_3 _) hk4
    have hB4_4 := hk4
    obtain ⟨hc1_4, hf1_4⟩ := kept_cells hB1_4
    have hz1_0_4 : w.heap.size < w4.heap.size := by have := hB1_4.size; simp at this; omega
    obtain ⟨hc4_4, hf4_4⟩ := kept_cells hB4_4
    have hz4_0_4 : w3.heap.size < w4.heap.size := by have := hB4_4.size; simp at this; omega
    go_wp2_with fail
    (go_at_call 12; refine (Valid_yes _ _ _ _ g).mono ?_; rintro e w5 ⟨rfl, hk5⟩)
    have hB1_5 := Kept.trans hB1_4 hk5
    have hB4_5 := Kept.trans hB4_4 hk5
    obtain ⟨hc1_5, hf1_5⟩ := kept_cells hB1_5
    have hz1_0_5 : w.heap.size < w5.heap.size := by have := hB1_5.size; simp at this; omega
    obtain ⟨hc4_5, hf4_5⟩ := kept_cells hB4_5
    have hz4_0_5 : w3.heap.size < w5.heap.size := by have := hB4_5.size; simp at this; omega
    go_wp2
    go_ret
    exact ⟨rfl, (by repeat (first | with_reducible exact Kept.refl _ | with_reducible assumption | with_reducible refine Kept.drew ?_ | with_reducible refine Kept.drewN ?_ _ | with_reducible refine Kept.alloc ?_ _ | (with_reducible refine Kept.setCell ?_ (by first | exact Nat.le_refl _ | omega | (simp; done) | (simp; omega)) _) | (with_reducible refine Kept.trans ?_ (by with_reducible assumption))))⟩
  · skip
    go_enter Try.func3, Try.ntmps3
    go_wp2_with fail
    (go_at_call 9; refine (Greg_awake _).mono ?_; rintro e w1 ⟨rfl, hk1⟩)
    have hB1_1 := hk1
    obtain ⟨hc1_1, hf1_1⟩ := kept_cells hB1_1
    have hz1_0_1 : w.heap.size < w1.heap.size := by have := hB1_1.size; simp at this; omega
    go_wp2_with fail
    (go_at_call 10; refine (ToDay_ok _ _ _ _ h).mono ?_; rintro e w2 ⟨rfl, hk2⟩)
    have hB1_2 := Kept.trans hB1_1 hk2
    obtain ⟨hc1_2, hf1_2⟩ := kept_cells hB1_2
    have hz1_0_2 : w.heap.size < w2.heap.size := by have := hB1_2.size; simp at this; omega
    go_wp2_with fail
    (go_at_call 11; refine (FromDay_ok _ _ _ _ _ h rfl).mono ?_; rintro e w3 ⟨rfl, hk3⟩)
    have hB1_3 := Kept.trans hB1_2 hk3
    obtain ⟨hc1_3, hf1_3⟩ := kept_cells hB1_3
    have hz1_0_3 : w.heap.size < w3.heap.size := by have := hB1_3.size; simp at this; omega
    go_wp2_with fail
    (go_at_call 11; refine (FromDay_no _ _ g).mono ?_; rintro e w4 ⟨rfl, hk4⟩)
    have hB1_4 := Kept.trans (Kept.alloc hB1_3 _) hk4
    have hB4_4 := hk4
    obtain ⟨hc1_4, hf1_4⟩ := kept_cells hB1_4
    have hz1_0_4 : w.heap.size < w4.heap.size := by have := hB1_4.size; simp at this; omega
    obtain ⟨hc4_4, hf4_4⟩ := kept_cells hB4_4
    have hz4_0_4 : w3.heap.size < w4.heap.size := by have := hB4_4.size; simp at this; omega
    go_wp2
    go_ret
    exact ⟨rfl, (by repeat (first | with_reducible exact Kept.refl _ | with_reducible assumption | with_reducible refine Kept.drew ?_ | with_reducible refine Kept.drewN ?_ _ | with_reducible refine Kept.alloc ?_ _ | (with_reducible refine Kept.setCell ?_ (by first | exact Nat.le_refl _ | omega | (simp; done) | (simp; omega)) _) | (with_reducible refine Kept.trans ?_ (by with_reducible assumption))))⟩
  · skip
    have GE := Lib.hid ge
    clear ge
    go_enter Try.func3, Try.ntmps3
    go_wp2_with fail
    (go_at_call 9; refine (Greg_awake _).mono ?_; rintro e w1 ⟨rfl, hk1⟩)
    have hB1_1 := hk1
    obtain ⟨hc1_1, hf1_1⟩ := kept_cells hB1_1
    have hz1_0_1 : w.heap.size < w1.heap.size := by have := hB1_1.size; simp at this; omega
    go_wp2_with fail
    (go_at_call 10; refine (ToDay_ok _ _ _ _ h).mono ?_; rintro e w2 ⟨rfl, hk2⟩)
    have hB1_2 := Kept.trans hB1_1 hk2
    obtain ⟨hc1_2, hf1_2⟩ := kept_cells hB1_2
    have hz1_0_2 : w.heap.size < w2.heap.size := by have := hB1_2.size; simp at this; omega
    go_wp2_with fail
    (go_at_call 11; refine (FromDay_ok _ _ _ _ _ h rfl).mono ?_; rintro e w3 ⟨rfl, hk3⟩)
    have hB1_3 := Kept.trans hB1_2 hk3
    obtain ⟨hc1_3, hf1_3⟩ := kept_cells hB1_3
    have hz1_0_3 : w.heap.size < w3.heap.size := by have := hB1_3.size; simp at this; omega
    go_wp2_with fail
    (go_at_call 11; refine (FromDay_ok _ _ _ _ _ g GE.out).mono ?_; rintro e w4 ⟨rfl, hk4⟩)
    have hB1_4 := Kept.trans (Kept.alloc hB1_3 _) hk4
    have hB4_4 := hk4
    obtain ⟨hc1_4, hf1_4⟩ := kept_cells hB1_4
    have hz1_0_4 : w.heap.size < w4.heap.size := by have := hB1_4.size; simp at this; omega
    obtain ⟨hc4_4, hf4_4⟩ := kept_cells hB4_4
    have hz4_0_4 : w3.heap.size < w4.heap.size := by have := hB4_4.size; simp at this; omega
    go_wp2_with fail
    (go_at_call 10; refine (ToDay_ok _ _ _ _ g).mono ?_; rintro e w5 ⟨rfl, hk5⟩)
    have hB1_5 := Kept.trans (Kept.alloc hB1_4 _) hk5
    have hB4_5 := Kept.trans (Kept.alloc hB4_4 _) hk5
    have hB5_5 := hk5
    obtain ⟨hc1_5, hf1_5⟩ := kept_cells hB1_5
    have hz1_0_5 : w.heap.size < w5.heap.size := by have := hB1_5.size; simp at this; omega
    obtain ⟨hc4_5, hf4_5⟩ := kept_cells hB4_5
    have hz4_0_5 : w3.heap.size < w5.heap.size := by have := hB4_5.size; simp at this; omega
    obtain ⟨hc5_5, hf5_5⟩ := kept_cells hB5_5
    have hz5_0_5 : w4.heap.size < w5.heap.size := by have := hB5_5.size; simp at this; omega
    go_wp2_with fail
    (go_at_call 12; refine (Valid_yes _ _ _ _ g).mono ?_; rintro e w6 ⟨rfl, hk6⟩)
    have hB1_6 := Kept.trans hB1_5 hk6
    have hB4_6 := Kept.trans hB4_5 hk6
    have hB5_6 := Kept.trans hB5_5 hk6
    obtain ⟨hc1_6, hf1_6⟩ := kept_cells hB1_6
    have hz1_0_6 : w.heap.size < w6.heap.size := by have := hB1_6.size; simp at this; omega
    obtain ⟨hc4_6, hf4_6⟩ := kept_cells hB4_6
    have hz4_0_6 : w3.heap.size < w6.heap.size := by have := hB4_6.size; simp at this; omega
    obtain ⟨hc5_6, hf5_6⟩ := kept_cells hB5_6
    have hz5_0_6 : w4.heap.size < w6.heap.size := by have := hB5_6.size; simp at this; omega
    go_wp2
    go_ret
    exact ⟨rfl, (by repeat (first | with_reducible exact Kept.refl _ | with_reducible assumption | with_reducible refine Kept.drew ?_ | with_reducible refine Kept.drewN ?_ _ | with_reducible refine Kept.alloc ?_ _ | (with_reducible refine Kept.setCell ?_ (by first | exact Nat.le_refl _ | omega | (simp; done) | (simp; omega)) _) | (with_reducible refine Kept.trans ?_ (by with_reducible assumption))))⟩

set_option maxRecDepth 100000 in
theorem GregorianRoundTrip_lifted (os : Os) (started : os.Started) (H : Type) (enc : TypeId × Value → H) :
    ReturnsInHanded {} Try.checked os 3 .any (Rows.gregorianRoundTripSpec.pre6 enc Try.prog Try.f3 Rows.gregorianRoundTripRow.domain false) (Rows.gregorianRoundTripSpec.post enc Try.prog Try.f3 false true false false) := by
  refine returnsInHanded_of_change (C := Try.checked) own_knob started (by kernel_rfl) Try.func3
    (ChangeSpec.witness6 (enc := enc) (C := Try.checked) false ⟨#[], #[.agg #[.int .i64 0, .int .i64 0, .int .i64 0], .int .i64 0], []⟩ 8 (by kernel_rfl) (by kernel_rfl) (by kernel_rfl) (by kernel_rfl)) ?_
  intro W base args ds gs before hval0 hW hcnd _
  have hval : ∀ (j : Nat) t v, Try.f3.params[j]? = some t → args[j]? = some v → Value.okWide Try.prog W .any base t v := hval0
  have hW' := hW
  obtain ⟨p, q, hA0, hV, rfl, hfz, hnd⟩ := hW
  have hA : DataW.TrodAll enc Try.prog W 0 (fun _ => true) true Try.f3.params.toList args.toList ds p := hA0
  rw [Try.params3] at hA hval
  obtain ⟨v0, vs0, d0, ds0, p0, q0, hargs, rfl, rfl, h0, r0⟩ := trodAll_cons hA
  obtain ⟨v1, vs1, d1, ds1, p1, q1, rfl, rfl, rfl, h1, r1⟩ := trodAll_cons r0
  obtain ⟨rfl, rfl, rfl⟩ := trodAll_nil r1
  obtain rfl : args = #[v0, v1] := by cases args; simp_all
  obtain ⟨rfl, rfl⟩ := trodVars_none hV
  obtain ⟨c00, c01, c02, y00, y01, y02, m0, rfl, rfl, rfl, hy00, hy01, hy02⟩ := open_agg3 Try.underlying23 (by kernel_rfl) cells_Date (hval 0 23 v0 rfl rfl) h0
  obtain ⟨a00, e00, rfl, w00⟩ := DataW.trod_int Try.underlying3 hy00
  obtain ⟨a01, e01, rfl, w01⟩ := DataW.trod_int Try.underlying3 hy01
  obtain ⟨a02, e02, rfl, w02⟩ := DataW.trod_int Try.underlying3 hy02
  simp at e00 e01 e02
  subst e00 e01 e02
  obtain ⟨a1, rfl, rfl, rfl, w1⟩ := open_int Try.underlying3 (hval 1 3 v1 rfl rfl) h1
  clear hA0 hval0
  simp only [List.append_nil] at hW'
  refine (GregorianRoundTrip_walk a00 a01 a02 a1 (wf_bounds w00) (wf_bounds w01) (wf_bounds w02) (wf_bounds w1) W).mono fun e W' ⟨he, hg⟩ => ?_
  subst he
  exact ⟨_, rfl, post_of_kept (pa := []) (pv := []) hW' (fun _ _ _ => (trodAll_cons_mk (shut_bool Try.underlying4 _) trodAll_mk0)) (fun sp _ => (trodAll_cons_mk (shut_agg3 (y0 := (.lit (.int .i64 a00), [])) (y1 := (.lit (.int .i64 a01), [])) (y2 := (.lit (.int .i64 a02), [])) Try.underlying23 (by kernel_rfl) cells_Date ⟨1, by simp [DataW.trod, Try.underlying3, w00]⟩ ⟨1, by simp [DataW.trod, Try.underlying3, w01]⟩ ⟨1, by simp [DataW.trod, Try.underlying3, w02]⟩) (trodAll_cons_mk (shut_int Try.underlying3 w1) trodAll_mk0))) (fun _ _ => rfl) rfl
    hg (ok_one (by kernel_rfl) rfl (okWide_bool_mk Try.underlying4 _))⟩
theorem GregorianRoundTrip_proved : Rows.GregorianRoundTripSaid :=
  OpenClaim.holds_of_wide 3 Try.f3 rfl rfl rfl rfl rfl rfl rfl ⟨rfl, rfl, rfl, rfl, rfl⟩ rfl rfl rfl rfl rfl (by kernel_rfl) Try.func3 (by kernel_rfl)
    (of_decide_eq_true (by kernel_rfl)) (by unfold Func.isWrapper; first | (rw [if_pos (by decide +kernel)]; kernel_rfl) | (rw [if_neg (by decide +kernel)]; exact ⟨rfl, rfl⟩))
    (fun os started H enc _ => GregorianRoundTrip_lifted os started H enc)
#print axioms GregorianRoundTrip_proved
end Go.Proofs.Ytolgbpnfhghgaaa

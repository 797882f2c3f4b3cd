/- 'Rows.GregorianSuccessorSaid': for every number, the date with the next number is the next day of the Gregorian calendar. No condition. -/
import Derived.Test.YtolgbpnfhghgaaaGregAw
set_option linter.unusedSimpArgs false
set_option linter.unusedVariables false
set_option linter.unusedSectionVars false
namespace Go.Proofs.Ytolgbpnfhghgaaa
open Go.ChangeShapes Go.WideShapes Go.ChangeAt Go.RowKit Go.Joins
set_option maxHeartbeats 1000000

theorem GregorianSuccessor_walk (n : Int) (_bn : -9223372036854775808 ≤ n ∧ n ≤ 9223372036854775807) (w : World) :
    Calls Try.prog 4 #[.int .i64 n] w fun e w' => e = .returned (.bool true) ∧ Kept w w' := by
  obtain ⟨n1, n2⟩ := _bn
  have KF := Lib.hid (fun w => rFirst_any 1000000001 w (by omega) (by omega))
  rw [fst_top, if_neg (by decide)] at KF
  by_cases h1 : n < 1
  · go_enter Try.func4, Try.ntmps4
    go_wp2_with fail
    (go_at_call 9; refine (Greg_awake _).mono ?_; rintro e w1 ⟨rfl, hk1⟩)
    go_wp2_with fail
    (go_at_call 9; refine (Greg_awake _).mono ?_; rintro e w2 ⟨rfl, hk2⟩)
    go_wp2
    go_ret
    exact ⟨rfl, (by repeat (first | with_reducible exact Kept.refl _ | with_reducible assumption | with_reducible refine Kept.drew ?_ | with_reducible refine Kept.drewN ?_ _ | with_reducible refine Kept.alloc ?_ _ | (with_reducible refine Kept.setCell ?_ (by first | exact Nat.le_refl _ | omega | (simp; done) | (simp; omega)) _) | (with_reducible refine Kept.trans ?_ (by with_reducible assumption))))⟩
  by_cases h2 : 365242499999 < n
  · go_enter Try.func4, Try.ntmps4
    go_wp2_with fail
    (go_at_call 9; refine (Greg_awake _).mono ?_; rintro e w1 ⟨rfl, hk1⟩)
    go_wp2_with fail
    (go_at_call 13; refine (KF.out _).mono ?_; rintro e w1 ⟨rfl, rfl⟩)
    go_wp2_with fail
    (go_at_call 9; refine (Greg_awake _).mono ?_; rintro e w2 ⟨rfl, hk2⟩)
    go_wp2
    go_ret
    exact ⟨rfl, (by repeat (first | with_reducible exact Kept.refl _ | with_reducible assumption | with_reducible refine Kept.drew ?_ | with_reducible refine Kept.drewN ?_ _ | with_reducible refine Kept.alloc ?_ _ | (with_reducible refine Kept.setCell ?_ (by first | exact Nat.le_refl _ | omega | (simp; done) | (simp; omega)) _) | (with_reducible refine Kept.trans ?_ (by with_reducible assumption))))⟩
  obtain ⟨y, m, d, hd, e⟩ := date_of 2 n (by rw [fst_one, if_neg (by decide)]; omega) (by rw [fst_top, if_neg (by decide)]; omega)
  obtain ⟨x1, x2, x3⟩ := num_next 2 y m d hd
  have mb := mlen_bounds (lp 2 y) m hd.2.2.1 hd.2.2.2.1
  obtain ⟨g1, g2, g3, g4, g5, g6⟩ := id hd
  have GE := Lib.hid e
  have HD := Lib.hid hd
  by_cases c1 : d < mlen (lp 2 y) m
  · obtain ⟨o, oe⟩ := x1 c1
    have k1 : d < mlen (lp 2 y) m := c1
    have OE := Lib.hid (oe.trans (by rw [e]))
    clear x1 x2 x3 e oe hd c1
    go_enter Try.func4, Try.ntmps4
    go_wp2_with fail
    (go_at_call 9; refine (Greg_awake _).mono ?_; rintro e w1 ⟨rfl, hk1⟩)
    go_wp2_with fail
    (go_at_call 13; refine (KF.out _).mono ?_; rintro e w1 ⟨rfl, rfl⟩)
    go_wp2_with fail
    (go_at_call 11; refine (FromDay_ok _ _ _ _ _ HD.out GE.out).mono ?_; rintro e w2 ⟨rfl, hk2⟩)
    go_wp2_with fail
    (go_at_call 11; refine (FromDay_ok _ _ _ _ _ o OE.out).mono ?_; rintro e w3 ⟨rfl, hk3⟩)
    have hB3_3 := hk3
    obtain ⟨hc3_3, hf3_3⟩ := kept_cells hB3_3
    have hz3_0_3 : w2.heap.size < w3.heap.size := by have := hB3_3.size; simp at this; omega
    go_wp2_with fail
    go_region_held3 (fun w' => Kept (w3.alloc (.cells #[.int .i64 y, .int .i64 m, .int .i64 (d + 1)] 23)) w' ∧ (∀ b o, b < (w3.alloc (.cells #[.int .i64 y, .int .i64 m, .int .i64 (d + 1)] 23)).heap.size → w'.cell? ⟨b, o, none⟩ = (w3.alloc (.cells #[.int .i64 y, .int .i64 m, .int .i64 (d + 1)] 23)).cell? ⟨b, o, none⟩)) (first | exact held_of (Kept.drew (Kept.refl _)) | exact held_of (Kept.trans (And.left (by assumption)) (by assumption))) (first | (go_at_call 15; refine (Leap_any _ _).mono ?_; rintro e w1 ⟨rfl, rfl⟩) | (go_at_call 14; refine (Next_day _ _ _ _ _ g2 g5 k1 (by omega)).mono ?_; rintro e w1 ⟨rfl, hk1⟩))
    go_wp2
    go_ret
    exact ⟨rfl, (by repeat (first | with_reducible exact Kept.refl _ | with_reducible assumption | with_reducible refine Kept.drew ?_ | with_reducible refine Kept.drewN ?_ _ | with_reducible refine Kept.alloc ?_ _ | (with_reducible refine Kept.setCell ?_ (by first | exact Nat.le_refl _ | omega | (simp; done) | (simp; omega)) _) | (with_reducible refine Kept.trans ?_ (by with_reducible assumption))))⟩
  have k1 : mlen (lp 2 y) m ≤ d := by omega
  by_cases c2 : m < 12
  · obtain ⟨o, oe⟩ := x2 c1 c2
    have OE := Lib.hid (oe.trans (by rw [e]))
    clear x1 x2 x3 e oe hd c1
    go_enter Try.func4, Try.ntmps4
    go_wp2_with fail
    (go_at_call 9; refine (Greg_awake _).mono ?_; rintro e w1 ⟨rfl, hk1⟩)
    go_wp2_with fail
    (go_at_call 13; refine (KF.out _).mono ?_; rintro e w1 ⟨rfl, rfl⟩)
    go_wp2_with fail
    (go_at_call 11; refine (FromDay_ok _ _ _ _ _ HD.out GE.out).mono ?_; rintro e w2 ⟨rfl, hk2⟩)
    go_wp2_with fail
    (go_at_call 11; refine (FromDay_ok _ _ _ _ _ o OE.out).mono ?_; rintro e w3 ⟨rfl, hk3⟩)
    have hB3_3 := hk3
    obtain ⟨hc3_3, hf3_3⟩ := kept_cells hB3_3
    have hz3_0_3 : w2.heap.size < w3.heap.size := by have := hB3_3.size; simp at this; omega
    go_wp2_with fail
    go_region_held3 (fun w' => Kept (w3.alloc (.cells #[.int .i64 y, .int .i64 (m + 1), .int .i64 1] 23)) w' ∧ (∀ b o, b < (w3.alloc (.cells #[.int .i64 y, .int .i64 (m + 1), .int .i64 1] 23)).heap.size → w'.cell? ⟨b, o, none⟩ = (w3.alloc (.cells #[.int .i64 y, .int .i64 (m + 1), .int .i64 1] 23)).cell? ⟨b, o, none⟩)) (first | exact held_of (Kept.drew (Kept.refl _)) | exact held_of (Kept.trans (And.left (by assumption)) (by assumption))) (first | (go_at_call 15; refine (Leap_any _ _).mono ?_; rintro e w1 ⟨rfl, rfl⟩) | (go_at_call 14; refine (Next_month _ _ _ _ _ g2 g3 c2 k1).mono ?_; rintro e w1 ⟨rfl, hk1⟩))
    go_wp2
    go_ret
    exact ⟨rfl, (by repeat (first | with_reducible exact Kept.refl _ | with_reducible assumption | with_reducible refine Kept.drew ?_ | with_reducible refine Kept.drewN ?_ _ | with_reducible refine Kept.alloc ?_ _ | (with_reducible refine Kept.setCell ?_ (by first | exact Nat.le_refl _ | omega | (simp; done) | (simp; omega)) _) | (with_reducible refine Kept.trans ?_ (by with_reducible assumption))))⟩
  · have k2 : 12 ≤ m := by omega
    have oe := x3 c1 c2
    have o : OkD 2 (y + 1) 1 1 := by
      refine ⟨by omega, ?_, by omega, by omega, by omega, by have := mlen_bounds (lp 2 (y + 1)) 1 (by omega) (by omega); omega⟩
      by_cases c3 : y = 1000000000
      · subst c3
        have : num 2 (1000000000 + 1) 1 1 = 365242500001 := by
          unfold num
          rw [cum_1, show (1000000000 : Int) + 1 = 1000000001 from rfl, fst_top, if_neg (by decide)]
          omega
        omega
      · omega
    have OE := Lib.hid (oe.trans (by rw [e]))
    clear x1 x2 x3 e oe hd c1
    go_enter Try.func4, Try.ntmps4
    go_wp2_with fail
    (go_at_call 9; refine (Greg_awake _).mono ?_; rintro e w1 ⟨rfl, hk1⟩)
    go_wp2_with fail
    (go_at_call 13; refine (KF.out _).mono ?_; rintro e w1 ⟨rfl, rfl⟩)
    go_wp2_with fail
    (go_at_call 11; refine (FromDay_ok _ _ _ _ _ HD.out GE.out).mono ?_; rintro e w2 ⟨rfl, hk2⟩)
    go_wp2_with fail
    (go_at_call 11; refine (FromDay_ok _ _ _ _ _ o OE.out).mono ?_; rintro e w3 ⟨rfl, hk3⟩)
    have hB3_3 := hk3
    obtain ⟨hc3_3, hf3_3⟩ := kept_cells hB3_3
    have hz3_0_3 : w2.heap.size < w3.heap.size := by have := hB3_3.size; simp at this; omega
    go_wp2_with fail
    go_region_held3 (fun w' => Kept (w3.alloc (.cells #[.int .i64 (y + 1), .int .i64 1, .int .i64 1] 23)) w' ∧ (∀ b o, b < (w3.alloc (.cells #[.int .i64 (y + 1), .int .i64 1, .int .i64 1] 23)).heap.size → w'.cell? ⟨b, o, none⟩ = (w3.alloc (.cells #[.int .i64 (y + 1), .int .i64 1, .int .i64 1] 23)).cell? ⟨b, o, none⟩)) (first | exact held_of (Kept.drew (Kept.refl _)) | exact held_of (Kept.trans (And.left (by assumption)) (by assumption))) (first | (go_at_call 15; refine (Leap_any _ _).mono ?_; rintro e w1 ⟨rfl, rfl⟩) | (go_at_call 14; refine (Next_year _ _ _ _ _ g1 g2 k2 k1).mono ?_; rintro e w1 ⟨rfl, hk1⟩))
    go_wp2
    go_ret
    exact ⟨rfl, (by repeat (first | with_reducible exact Kept.refl _ | with_reducible assumption | with_reducible refine Kept.drew ?_ | with_reducible refine Kept.drewN ?_ _ | with_reducible refine Kept.alloc ?_ _ | (with_reducible refine Kept.setCell ?_ (by first | exact Nat.le_refl _ | omega | (simp; done) | (simp; omega)) _) | (with_reducible refine Kept.trans ?_ (by with_reducible assumption))))⟩

set_option maxRecDepth 100000 in
theorem GregorianSuccessor_lifted (os : Os) (started : os.Started) (H : Type) (enc : TypeId × Value → H) :
    ReturnsInHanded {} Try.checked os 4 .any (Rows.gregorianSuccessorSpec.pre6 enc Try.prog Try.f4 Rows.gregorianSuccessorRow.domain false) (Rows.gregorianSuccessorSpec.post enc Try.prog Try.f4 false true false false) := by
  refine returnsInHanded_of_change (C := Try.checked) own_knob started (by kernel_rfl) Try.func4
    (ChangeSpec.witness6 (enc := enc) (C := Try.checked) false ⟨#[], #[.int .i64 0], []⟩ 8 (by kernel_rfl) (by kernel_rfl) (by kernel_rfl) (by kernel_rfl)) ?_
  intro W base args ds gs before hval0 hW hcnd _
  have hval : ∀ (j : Nat) t v, Try.f4.params[j]? = some t → args[j]? = some v → Value.okWide Try.prog W .any base t v := hval0
  have hW' := hW
  obtain ⟨p, q, hA0, hV, rfl, hfz, hnd⟩ := hW
  have hA : DataW.TrodAll enc Try.prog W 0 (fun _ => true) true Try.f4.params.toList args.toList ds p := hA0
  rw [Try.params4] at hA hval
  obtain ⟨v0, vs0, d0, ds0, p0, q0, hargs, rfl, rfl, h0, r0⟩ := trodAll_cons hA
  obtain ⟨rfl, rfl, rfl⟩ := trodAll_nil r0
  obtain rfl : args = #[v0] := by cases args; simp_all
  obtain ⟨rfl, rfl⟩ := trodVars_none hV
  obtain ⟨a0, rfl, rfl, rfl, w0⟩ := open_int Try.underlying3 (hval 0 3 v0 rfl rfl) h0
  clear hA0 hval0
  simp only [List.append_nil] at hW'
  refine (GregorianSuccessor_walk a0 (wf_bounds w0) W).mono fun e W' ⟨he, hg⟩ => ?_
  subst he
  exact ⟨_, rfl, post_of_kept (pa := []) (pv := []) hW' (fun _ _ _ => (trodAll_cons_mk (shut_bool Try.underlying4 _) trodAll_mk0)) (fun sp _ => (trodAll_cons_mk (shut_int Try.underlying3 w0) trodAll_mk0)) (fun _ _ => rfl) rfl
    hg (ok_one (by kernel_rfl) rfl (okWide_bool_mk Try.underlying4 _))⟩
theorem GregorianSuccessor_proved : Rows.GregorianSuccessorSaid :=
  OpenClaim.holds_of_wide 4 Try.f4 rfl rfl rfl rfl rfl rfl rfl ⟨rfl, rfl, rfl, rfl, rfl⟩ rfl rfl rfl rfl rfl (by kernel_rfl) Try.func4 (by kernel_rfl)
    (of_decide_eq_true (by kernel_rfl)) (by unfold Func.isWrapper; first | (rw [if_pos (by decide +kernel)]; kernel_rfl) | (rw [if_neg (by decide +kernel)]; exact ⟨rfl, rfl⟩))
    (fun os started H enc _ => GregorianSuccessor_lifted os started H enc)
#print axioms GregorianSuccessor_proved
end Go.Proofs.Ytolgbpnfhghgaaa

/- The fixed examples of the laws of layer 5. -/
import Derived.Test.YtcfgiboknkkheaaDoorCiv4
import Derived.Test.YtcfgiboknkkheaaDoorLaid05
set_option linter.unusedSimpArgs false
set_option linter.unusedVariables false
set_option linter.unusedSectionVars false
namespace Go.Proofs.YtcfgiboknkkheaaDoor
open Go.ChangeShapes Go.WideShapes Go.ChangeAt Go.RowKit Go.Joins
set_option maxHeartbeats 1000000

theorem wf_bounds32 {a : Int} (h : (Lit.int .i32 a).wf = true) : -2147483648 ≤ a ∧ a ≤ 2147483647 := by
  have := bounds_i32 h
  omega
theorem c_ok (c y m d : Int) (hc : IsCal c) (h : OkD c y m d) : cN c y m d = num c y m d ∧ cE c y m d = 0 := by
  rcases c_cases c y m d with ⟨_, _, a, b⟩ | ⟨_, _, _, a⟩
  · exact ⟨a, b⟩
  · exact absurd ⟨hc, h⟩ a
theorem cv_ok (y m d a b x1 x2 x3 : Int) (ha : IsCal a) (hb : IsCal b) (h : OkD a y m d) (h' : OkD b x1 x2 x3) (e : num a y m d = num b x1 x2 x3) : CvRel y m d a b x1 x2 x3 0 := by
  obtain ⟨p, q⟩ := c_ok a y m d ha h
  exact .inr (.inr ⟨hb, q, .inl ⟨hb, .inr ⟨h', by rw [p, e], rfl⟩⟩⟩)
theorem aw5_1 : CvRel 1582 10 4 1 2 1582 10 14 0 :=
  cv_ok _ _ _ _ _ _ _ _ (.inl rfl) (.inr rfl) (by unfold OkD; decide) (by unfold OkD; decide) (by decide)
theorem aw5_2 : oyN 2 2000 3 1 = 61 ∧ cE 2 2000 3 1 = 0 := by
  have h := (c_ok 2 2000 3 1 (.inr rfl) (by unfold OkD; decide)).2
  refine ⟨?_, h⟩
  unfold oyN
  rw [if_pos h]
  decide
theorem aw5_3 : FyRel 1 1900 366 1900 12 31 0 := by
  have h : ylN 1 1900 = 366 ∧ ylE 1 1900 = 0 := by
    rcases yl_cases 1 1900 with ⟨a, _⟩ | ⟨_, a, _⟩ | ⟨_, _, _, a, b⟩
    · exact absurd (.inl rfl) a
    · omega
    · exact ⟨a.trans (by decide), b⟩
  exact .inr (.inr ⟨h.2, by omega, by omega, rfl, by unfold OkD; decide, by decide, rfl⟩)
theorem Civ_awake (w : World) (hT : Tab w) : Calls Tryd.prog 13 #[] w fun e w' => e = .returned (.bool true) ∧ Kept w w' := by
  have KT := Lib.hid (fun w' (k : Kept w w') => hT.kept k)
  have KO := Lib.hid (fun w hT => OfYear_all 2 2000 3 1 w hT)
  rw [aw5_2.1, aw5_2.2] at KO
  have KD := Lib.hid (fun w hT => CToDay_all 3 1 1 1 w hT)
  rw [show cN 3 1 1 1 = 0 from if_neg (by unfold IsCal; omega), show cE 3 1 1 1 = 3 from if_neg (by unfold IsCal; omega)] at KD
  clear hT
  go_enter Tryd.func13, Tryd.ntmps13
  go_wp2_with fail
  (go_at_call 17; refine (Convert_all _ _ _ _ _ _ _ _ _ _ (KT.out _ (by repeat (first | with_reducible exact Kept.refl _ | with_reducible assumption | with_reducible refine Kept.drew ?_ | with_reducible refine Kept.drewN ?_ _ | with_reducible refine Kept.alloc ?_ _ | (with_reducible refine Kept.setCell ?_ (by first | exact Nat.le_refl _ | omega | (simp; done) | (simp; omega)) _) | (with_reducible refine Kept.trans ?_ (by with_reducible assumption))))) aw5_1).mono ?_; rintro e w1 ⟨rfl, hk1⟩)
  go_wp2_with fail
  (go_at_call 14; refine (KO.out _ (KT.out _ (by repeat (first | with_reducible exact Kept.refl _ | with_reducible assumption | with_reducible refine Kept.drew ?_ | with_reducible refine Kept.drewN ?_ _ | with_reducible refine Kept.alloc ?_ _ | (with_reducible refine Kept.setCell ?_ (by first | exact Nat.le_refl _ | omega | (simp; done) | (simp; omega)) _) | (with_reducible refine Kept.trans ?_ (by with_reducible assumption)))))).mono ?_; rintro e w2 ⟨rfl, hk2⟩)
  have hB2_2 := hk2
  obtain ⟨hc2_2, hf2_2⟩ := kept_cells hB2_2
  have hz2_0_2 : w1.heap.size < w2.heap.size := by have := hB2_2.size; simp at this; omega
  go_wp2_with fail
  (go_at_call 31; refine (KD.out _ (KT.out _ (by repeat (first | with_reducible exact Kept.refl _ | with_reducible assumption | with_reducible refine Kept.drew ?_ | with_reducible refine Kept.drewN ?_ _ | with_reducible refine Kept.alloc ?_ _ | (with_reducible refine Kept.setCell ?_ (by first | exact Nat.le_refl _ | omega | (simp; done) | (simp; omega)) _) | (with_reducible refine Kept.trans ?_ (by with_reducible assumption)))))).mono ?_; rintro e w3 ⟨rfl, hk3⟩)
  have hB2_3 := Kept.trans hB2_2 hk3
  obtain ⟨hc2_3, hf2_3⟩ := kept_cells hB2_3
  have hz2_0_3 : w1.heap.size < w3.heap.size := by have := hB2_3.size; simp at this; omega
  go_wp2_with fail
  (go_at_call 15; refine (FromYear_all _ _ _ _ _ _ _ _ (KT.out _ (by repeat (first | with_reducible exact Kept.refl _ | with_reducible assumption | with_reducible refine Kept.drew ?_ | with_reducible refine Kept.drewN ?_ _ | with_reducible refine Kept.alloc ?_ _ | (with_reducible refine Kept.setCell ?_ (by first | exact Nat.le_refl _ | omega | (simp; done) | (simp; omega)) _) | (with_reducible refine Kept.trans ?_ (by with_reducible assumption))))) aw5_3 (by omega)).mono ?_; rintro e w4 ⟨rfl, hk4⟩)
  have hB2_4 := Kept.trans hB2_3 hk4
  obtain ⟨hc2_4, hf2_4⟩ := kept_cells hB2_4
  have hz2_0_4 : w1.heap.size < w4.heap.size := by have := hB2_4.size; simp at this; omega
  go_wp2
  go_ret
  exact ⟨rfl, (by repeat (first | with_reducible exact Kept.refl _ | with_reducible assumption | with_reducible refine Kept.drew ?_ | with_reducible refine Kept.drewN ?_ _ | with_reducible refine Kept.alloc ?_ _ | (with_reducible refine Kept.setCell ?_ (by first | exact Nat.le_refl _ | omega | (simp; done) | (simp; omega)) _) | (with_reducible refine Kept.trans ?_ (by with_reducible assumption))))⟩

theorem cv_err (y m d a b x1 x2 x3 e : Int) (h : CvRel y m d a b x1 x2 x3 e) : e = 0 ∨ (1 ≤ e ∧ e ≤ 3) := by
  rcases h with ⟨_, _, _, _, rfl⟩ | ⟨_, _, _, _, _, rfl⟩ | ⟨_, _, ⟨_, ⟨_, _, _, _, rfl⟩ | ⟨_, _, rfl⟩⟩ | ⟨_, _, _, _, rfl⟩⟩
  · omega
  · rcases c_cases a y m d with ⟨_, _, _, g⟩ | ⟨_, g, _⟩ <;> omega
  · omega
  · omega
  · omega
theorem cv_zero (y m d a b x1 x2 x3 : Int) (h : CvRel y m d a b x1 x2 x3 0) : IsCal a ∧ IsCal b ∧ OkD a y m d ∧ OkD b x1 x2 x3 ∧ num a y m d = num b x1 x2 x3 := by
  rcases h with ⟨_, _, _, _, h⟩ | ⟨_, hne, _, _, _, h⟩ | ⟨hb, hz, ⟨_, ⟨_, _, _, _, h⟩ | ⟨ho, hn, _⟩⟩ | ⟨_, _, _, _, h⟩⟩
  · omega
  · omega
  · omega
  · rcases c_cases a y m d with ⟨p, q, r, _⟩ | ⟨_, g, _⟩
    · exact ⟨p, hb, q, ho, by rw [← r, hn]⟩
    · omega
  · omega
end Go.Proofs.YtcfgiboknkkheaaDoor

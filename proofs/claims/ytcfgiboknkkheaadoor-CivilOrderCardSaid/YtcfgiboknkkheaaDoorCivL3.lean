/- 'Rows.CivilOrderCardSaid': for both calendars and every two dates, converting to the other calendar preserves the order of dates. No condition but that julian.lengths lies as the program's text lays it, which the card ties. -/
import Derived.Test.YtcfgiboknkkheaaDoorCivAw
set_option linter.unusedSimpArgs false
set_option linter.unusedVariables false
set_option linter.unusedSectionVars false
namespace Go.Proofs.YtcfgiboknkkheaaDoor
open Go.ChangeShapes Go.WideShapes Go.ChangeAt Go.RowKit Go.Joins
set_option maxHeartbeats 4000000

theorem Less_both (y m d y' m' d' x1 x2 x3 z1 z2 z3 : Int) (h : Before y m d y' m' d' ↔ Before x1 x2 x3 z1 z2 z3) : ∃ b : Bool,
    (∀ w, Calls Tryd.prog 18 #[.agg #[.int .i64 y, .int .i64 m, .int .i64 d], .agg #[.int .i64 y', .int .i64 m', .int .i64 d']] w fun e w' => e = .returned (.bool b) ∧ Kept w w') ∧
    (∀ w, Calls Tryd.prog 18 #[.agg #[.int .i64 x1, .int .i64 x2, .int .i64 x3], .agg #[.int .i64 z1, .int .i64 z2, .int .i64 z3]] w fun e w' => e = .returned (.bool b) ∧ Kept w w') := by
  by_cases hb : Before y m d y' m' d'
  · exact ⟨true, fun w => Less_yes _ _ _ _ _ _ w hb, fun w => Less_yes _ _ _ _ _ _ w (h.1 hb)⟩
  · exact ⟨false, fun w => Less_no _ _ _ _ _ _ w hb, fun w => Less_no _ _ _ _ _ _ w (fun g => hb (h.2 g))⟩
theorem diff (y m d y' m' d' : Int) : (y = y' ∧ m = m' ∧ d = d') ∨ y ≠ y' ∨ (y = y' ∧ m ≠ m') ∨ (y = y' ∧ m = m' ∧ d ≠ d') := by omega
theorem CivilOrder_walk0 (c y m d y' m' d' : Int) (c1 : 0 ≤ c) (c2 : c ≤ 255) (hc : c % 2 = 0) (w : World) (hT : Tab w) :
    Calls Tryd.prog 4 #[.int .u8 c, .agg #[.int .i64 y, .int .i64 m, .int .i64 d], .agg #[.int .i64 y', .int .i64 m', .int .i64 d']] w fun e w' => e = .returned (.bool true) ∧ Kept w w' := by
  have KT := Lib.hid (fun w' (k : Kept w w') => hT.kept k)
  clear hT
  obtain ⟨x1, x2, x3, e, hcx⟩ := cv_some y m d 1 2
  obtain ⟨z1, z2, z3, e', hcz⟩ := cv_some y' m' d' 1 2
  have HX := Lib.hid hcx
  have HZ := Lib.hid hcz
  rcases cv_err _ _ _ _ _ _ _ _ _ hcx with rfl | ⟨he, _⟩
  · rcases cv_err _ _ _ _ _ _ _ _ _ hcz with rfl | ⟨he, _⟩
    · obtain ⟨_, _, h1, h2, h3⟩ := cv_zero _ _ _ _ _ _ _ _ hcx
      obtain ⟨_, _, g1, g2, g3⟩ := cv_zero _ _ _ _ _ _ _ _ hcz
      have hiff : Before y m d y' m' d' ↔ Before x1 x2 x3 z1 z2 z3 := by
        rw [← num_lt_iff _ _ _ _ _ _ _ h1 g1, ← num_lt_iff _ _ _ _ _ _ _ h2 g2, h3, g3]
      have heq : (y = y' ∧ m = m' ∧ d = d') ↔ (x1 = z1 ∧ x2 = z2 ∧ x3 = z3) := by
        constructor
        · rintro ⟨rfl, rfl, rfl⟩
          exact num_inj _ _ _ _ _ _ _ h2 g2 (by rw [← h3, ← g3])
        · rintro ⟨rfl, rfl, rfl⟩
          exact num_inj _ _ _ _ _ _ _ h1 g1 (by rw [h3, g3])
      obtain ⟨bl, L1, L2⟩ := Less_both _ _ _ _ _ _ _ _ _ _ _ _ hiff
      have KL1 := Lib.hid L1
      have KL2 := Lib.hid L2
      clear hcx hcz h1 h2 h3 g1 g2 g3 L1 L2 hiff
      by_cases q : y = y' ∧ m = m' ∧ d = d'
      · obtain ⟨rfl, rfl, rfl⟩ := heq.1 q
        obtain ⟨rfl, rfl, rfl⟩ := q
        clear heq
        go_enter Tryd.func4, Tryd.ntmps4
        go_wp2_with fail
        (go_at_call 13; refine (Civ_awake _ (KT.out _ (by repeat (first | with_reducible exact Kept.refl _ | with_reducible assumption | with_reducible refine Kept.drew ?_ | with_reducible refine Kept.drewN ?_ _ | with_reducible refine Kept.alloc ?_ _ | (with_reducible refine Kept.setCell ?_ (by first | exact Nat.le_refl _ | omega | (simp; done) | (simp; omega)) _) | (with_reducible refine Kept.trans ?_ (by with_reducible assumption)))))).mono ?_; rintro e w1 ⟨rfl, hk1⟩)
        have hB1_1 := hk1
        obtain ⟨hc1_1, hf1_1⟩ := kept_cells hB1_1
        have hz1_0_1 : w.heap.size < w1.heap.size := by have := hB1_1.size; simp at this; omega
        have hz1_1_1 : w.heap.size + 1 < w1.heap.size := by have := hB1_1.size; simp at this; omega
        go_wp2_with fail
        (go_at_call 17; refine (Convert_all _ _ _ _ _ _ _ _ _ _ (KT.out _ (by repeat (first | with_reducible exact Kept.refl _ | with_reducible assumption | with_reducible refine Kept.drew ?_ | with_reducible refine Kept.drewN ?_ _ | with_reducible refine Kept.alloc ?_ _ | (with_reducible refine Kept.setCell ?_ (by first | exact Nat.le_refl _ | omega | (simp; done) | (simp; omega)) _) | (with_reducible refine Kept.trans ?_ (by with_reducible assumption))))) HX.out).mono ?_; rintro e w2 ⟨rfl, hk2⟩)
        have hB1_2 := Kept.trans hB1_1 hk2
        obtain ⟨hc1_2, hf1_2⟩ := kept_cells hB1_2
        have hz1_0_2 : w.heap.size < w2.heap.size := by have := hB1_2.size; simp at this; omega
        have hz1_1_2 : w.heap.size + 1 < w2.heap.size := by have := hB1_2.size; simp at this; omega
        go_wp2_with fail
        (go_at_call 17; refine (Convert_all _ _ _ _ _ _ _ _ _ _ (KT.out _ (by repeat (first | with_reducible exact Kept.refl _ | with_reducible assumption | with_reducible refine Kept.drew ?_ | with_reducible refine Kept.drewN ?_ _ | with_reducible refine Kept.alloc ?_ _ | (with_reducible refine Kept.setCell ?_ (by first | exact Nat.le_refl _ | omega | (simp; done) | (simp; omega)) _) | (with_reducible refine Kept.trans ?_ (by with_reducible assumption))))) HZ.out).mono ?_; rintro e w3 ⟨rfl, hk3⟩)
        have hB1_3 := Kept.trans (Kept.alloc hB1_2 _) hk3
        have hB3_3 := hk3
        obtain ⟨hc1_3, hf1_3⟩ := kept_cells hB1_3
        have hz1_0_3 : w.heap.size < w3.heap.size := by have := hB1_3.size; simp at this; omega
        have hz1_1_3 : w.heap.size + 1 < w3.heap.size := by have := hB1_3.size; simp at this; omega
        obtain ⟨hc3_3, hf3_3⟩ := kept_cells hB3_3
        have hz3_0_3 : w2.heap.size < w3.heap.size := by have := hB3_3.size; simp at this; omega
        go_wp2_with fail
        go_region_held3 (fun w' => Kept (w3.alloc (.cells #[.int .i64 x1, .int .i64 x2, .int .i64 x3] 23)) w' ∧ (∀ b o, b < (w3.alloc (.cells #[.int .i64 x1, .int .i64 x2, .int .i64 x3] 23)).heap.size → w'.cell? ⟨b, o, none⟩ = (w3.alloc (.cells #[.int .i64 x1, .int .i64 x2, .int .i64 x3] 23)).cell? ⟨b, o, none⟩)) (first | exact held_of (Kept.drew (Kept.refl _)) | exact held_of (Kept.trans (And.left (by assumption)) (by assumption))) (first | (go_at_call 18; (with_reducible refine (KL1.out _).mono ?_); rintro e w1 ⟨rfl, hk1⟩) | (go_at_call 18; (with_reducible refine (KL2.out _).mono ?_); rintro e w1 ⟨rfl, hk1⟩))
        go_wp2
        go_ret
        exact ⟨rfl, (by repeat (first | with_reducible exact Kept.refl _ | with_reducible assumption | with_reducible refine Kept.drew ?_ | with_reducible refine Kept.drewN ?_ _ | with_reducible refine Kept.alloc ?_ _ | (with_reducible refine Kept.setCell ?_ (by first | exact Nat.le_refl _ | omega | (simp; done) | (simp; omega)) _) | (with_reducible refine Kept.trans ?_ (by with_reducible assumption))))⟩
      · have q' : ¬ (x1 = z1 ∧ x2 = z2 ∧ x3 = z3) := fun h => q (heq.2 h)
        clear heq
        rcases diff y m d y' m' d' with u | u | ⟨rfl, u⟩ | ⟨rfl, rfl, u⟩
        · exact absurd u q
        · clear q
          have U : (y == y') = false := by simpa using u
          rcases diff x1 x2 x3 z1 z2 z3 with v | v | ⟨rfl, v⟩ | ⟨rfl, rfl, v⟩
          · exact absurd v q'
          · clear q'
            have V : (x1 == z1) = false := by simpa using v
            go_enter Tryd.func4, Tryd.ntmps4
            go_wp2_with fail
            (go_at_call 13; refine (Civ_awake _ (KT.out _ (by repeat (first | with_reducible exact Kept.refl _ | with_reducible assumption | with_reducible refine Kept.drew ?_ | with_reducible refine Kept.drewN ?_ _ | with_reducible refine Kept.alloc ?_ _ | (with_reducible refine Kept.setCell ?_ (by first | exact Nat.le_refl _ | omega | (simp; done) | (simp; omega)) _) | (with_reducible refine Kept.trans ?_ (by with_reducible assumption)))))).mono ?_; rintro e w1 ⟨rfl, hk1⟩)
            have hB1_1 := hk1
            obtain ⟨hc1_1, hf1_1⟩ := kept_cells hB1_1
            have hz1_0_1 : w.heap.size < w1.heap.size := by have := hB1_1.size; simp at this; omega
            have hz1_1_1 : w.heap.size + 1 < w1.heap.size := by have := hB1_1.size; simp at this; omega
            go_wp2_with fail
            (go_at_call 17; refine (Convert_all _ _ _ _ _ _ _ _ _ _ (KT.out _ (by repeat (first | with_reducible exact Kept.refl _ | with_reducible assumption | with_reducible refine Kept.drew ?_ | with_reducible refine Kept.drewN ?_ _ | with_reducible refine Kept.alloc ?_ _ | (with_reducible refine Kept.setCell ?_ (by first | exact Nat.le_refl _ | omega | (simp; done) | (simp; omega)) _) | (with_reducible refine Kept.trans ?_ (by with_reducible assumption))))) HX.out).mono ?_; rintro e w2 ⟨rfl, hk2⟩)
            have hB1_2 := Kept.trans hB1_1 hk2
            obtain ⟨hc1_2, hf1_2⟩ := kept_cells hB1_2
            have hz1_0_2 : w.heap.size < w2.heap.size := by have := hB1_2.size; simp at this; omega
            have hz1_1_2 : w.heap.size + 1 < w2.heap.size := by have := hB1_2.size; simp at this; omega
            go_wp2_with fail
            (go_at_call 17; refine (Convert_all _ _ _ _ _ _ _ _ _ _ (KT.out _ (by repeat (first | with_reducible exact Kept.refl _ | with_reducible assumption | with_reducible refine Kept.drew ?_ | with_reducible refine Kept.drewN ?_ _ | with_reducible refine Kept.alloc ?_ _ | (with_reducible refine Kept.setCell ?_ (by first | exact Nat.le_refl _ | omega | (simp; done) | (simp; omega)) _) | (with_reducible refine Kept.trans ?_ (by with_reducible assumption))))) HZ.out).mono ?_; rintro e w3 ⟨rfl, hk3⟩)
            have hB1_3 := Kept.trans (Kept.alloc hB1_2 _) hk3
            have hB3_3 := hk3
            obtain ⟨hc1_3, hf1_3⟩ := kept_cells hB1_3
            have hz1_0_3 : w.heap.size < w3.heap.size := by have := hB1_3.size; simp at this; omega
            have hz1_1_3 : w.heap.size + 1 < w3.heap.size := by have := hB1_3.size; simp at this; omega
            obtain ⟨hc3_3, hf3_3⟩ := kept_cells hB3_3
            have hz3_0_3 : w2.heap.size < w3.heap.size := by have := hB3_3.size; simp at this; omega
            go_wp2_with fail
            go_region_held3 (fun w' => Kept (w3.alloc (.cells #[.int .i64 z1, .int .i64 z2, .int .i64 z3] 23)) w' ∧ (∀ b o, b < (w3.alloc (.cells #[.int .i64 z1, .int .i64 z2, .int .i64 z3] 23)).heap.size → w'.cell? ⟨b, o, none⟩ = (w3.alloc (.cells #[.int .i64 z1, .int .i64 z2, .int .i64 z3] 23)).cell? ⟨b, o, none⟩)) (first | exact held_of (Kept.drew (Kept.refl _)) | exact held_of (Kept.trans (And.left (by assumption)) (by assumption))) (first | (go_at_call 18; (with_reducible refine (KL1.out _).mono ?_); rintro e w1 ⟨rfl, hk1⟩) | (go_at_call 18; (with_reducible refine (KL2.out _).mono ?_); rintro e w1 ⟨rfl, hk1⟩))
            go_wp2
            go_ret
            exact ⟨rfl, (by repeat (first | with_reducible exact Kept.refl _ | with_reducible assumption | with_reducible refine Kept.drew ?_ | with_reducible refine Kept.drewN ?_ _ | with_reducible refine Kept.alloc ?_ _ | (with_reducible refine Kept.setCell ?_ (by first | exact Nat.le_refl _ | omega | (simp; done) | (simp; omega)) _) | (with_reducible refine Kept.trans ?_ (by with_reducible assumption))))⟩
          · clear q'
            have V : (x2 == z2) = false := by simpa using v
            go_enter Tryd.func4, Tryd.ntmps4
            go_wp2_with fail
            (go_at_call 13; refine (Civ_awake _ (KT.out _ (by repeat (first | with_reducible exact Kept.refl _ | with_reducible assumption | with_reducible refine Kept.drew ?_ | with_reducible refine Kept.drewN ?_ _ | with_reducible refine Kept.alloc ?_ _ | (with_reducible refine Kept.setCell ?_ (by first | exact Nat.le_refl _ | omega | (simp; done) | (simp; omega)) _) | (with_reducible refine Kept.trans ?_ (by with_reducible assumption)))))).mono ?_; rintro e w1 ⟨rfl, hk1⟩)
            have hB1_1 := hk1
            obtain ⟨hc1_1, hf1_1⟩ := kept_cells hB1_1
            have hz1_0_1 : w.heap.size < w1.heap.size := by have := hB1_1.size; simp at this; omega
            have hz1_1_1 : w.heap.size + 1 < w1.heap.size := by have := hB1_1.size; simp at this; omega
            go_wp2_with fail
            (go_at_call 17; refine (Convert_all _ _ _ _ _ _ _ _ _ _ (KT.out _ (by repeat (first | with_reducible exact Kept.refl _ | with_reducible assumption | with_reducible refine Kept.drew ?_ | with_reducible refine Kept.drewN ?_ _ | with_reducible refine Kept.alloc ?_ _ | (with_reducible refine Kept.setCell ?_ (by first | exact Nat.le_refl _ | omega | (simp; done) | (simp; omega)) _) | (with_reducible refine Kept.trans ?_ (by with_reducible assumption))))) HX.out).mono ?_; rintro e w2 ⟨rfl, hk2⟩)
            have hB1_2 := Kept.trans hB1_1 hk2
            obtain ⟨hc1_2, hf1_2⟩ := kept_cells hB1_2
            have hz1_0_2 : w.heap.size < w2.heap.size := by have := hB1_2.size; simp at this; omega
            have hz1_1_2 : w.heap.size + 1 < w2.heap.size := by have := hB1_2.size; simp at this; omega
            go_wp2_with fail
            (go_at_call 17; refine (Convert_all _ _ _ _ _ _ _ _ _ _ (KT.out _ (by repeat (first | with_reducible exact Kept.refl _ | with_reducible assumption | with_reducible refine Kept.drew ?_ | with_reducible refine Kept.drewN ?_ _ | with_reducible refine Kept.alloc ?_ _ | (with_reducible refine Kept.setCell ?_ (by first | exact Nat.le_refl _ | omega | (simp; done) | (simp; omega)) _) | (with_reducible refine Kept.trans ?_ (by with_reducible assumption))))) HZ.out).mono ?_; rintro e w3 ⟨rfl, hk3⟩)
            have hB1_3 := Kept.trans (Kept.alloc hB1_2 _) hk3
            have hB3_3 := hk3
            obtain ⟨hc1_3, hf1_3⟩ := kept_cells hB1_3
            have hz1_0_3 : w.heap.size < w3.heap.size := by have := hB1_3.size; simp at this; omega
            have hz1_1_3 : w.heap.size + 1 < w3.heap.size := by have := hB1_3.size; simp at this; omega
            obtain ⟨hc3_3, hf3_3⟩ := kept_cells hB3_3
            have hz3_0_3 : w2.heap.size < w3.heap.size := by have := hB3_3.size; simp at this; omega
            go_wp2_with fail
            go_region_held3 (fun w' => Kept (w3.alloc (.cells #[.int .i64 x1, .int .i64 z2, .int .i64 z3] 23)) w' ∧ (∀ b o, b < (w3.alloc (.cells #[.int .i64 x1, .int .i64 z2, .int .i64 z3] 23)).heap.size → w'.cell? ⟨b, o, none⟩ = (w3.alloc (.cells #[.int .i64 x1, .int .i64 z2, .int .i64 z3] 23)).cell? ⟨b, o, none⟩)) (first | exact held_of (Kept.drew (Kept.refl _)) | exact held_of (Kept.trans (And.left (by assumption)) (by assumption))) (first | (go_at_call 18; (with_reducible refine (KL1.out _).mono ?_); rintro e w1 ⟨rfl, hk1⟩) | (go_at_call 18; (with_reducible refine (KL2.out _).mono ?_); rintro e w1 ⟨rfl, hk1⟩))
            go_wp2
            go_ret
            exact ⟨rfl, (by repeat (first | with_reducible exact Kept.refl _ | with_reducible assumption | with_reducible refine Kept.drew ?_ | with_reducible refine Kept.drewN ?_ _ | with_reducible refine Kept.alloc ?_ _ | (with_reducible refine Kept.setCell ?_ (by first | exact Nat.le_refl _ | omega | (simp; done) | (simp; omega)) _) | (with_reducible refine Kept.trans ?_ (by with_reducible assumption))))⟩
          · clear q'
            have V : (x3 == z3) = false := by simpa using v
            go_enter Tryd.func4, Tryd.ntmps4
            go_wp2_with fail
            (go_at_call 13; refine (Civ_awake _ (KT.out _ (by repeat (first | with_reducible exact Kept.refl _ | with_reducible assumption | with_reducible refine Kept.drew ?_ | with_reducible refine Kept.drewN ?_ _ | with_reducible refine Kept.alloc ?_ _ | (with_reducible refine Kept.setCell ?_ (by first | exact Nat.le_refl _ | omega | (simp; done) | (simp; omega)) _) | (with_reducible refine Kept.trans ?_ (by with_reducible assumption)))))).mono ?_; rintro e w1 ⟨rfl, hk1⟩)
            have hB1_1 := hk1
            obtain ⟨hc1_1, hf1_1⟩ := kept_cells hB1_1
            have hz1_0_1 : w.heap.size < w1.heap.size := by have := hB1_1.size; simp at this; omega
            have hz1_1_1 : w.heap.size + 1 < w1.heap.size := by have := hB1_1.size; simp at this; omega
            go_wp2_with fail
            (go_at_call 17; refine (Convert_all _ _ _ _ _ _ _ _ _ _ (KT.out _ (by repeat (first | with_reducible exact Kept.refl _ | with_reducible assumption | with_reducible refine Kept.drew ?_ | with_reducible refine Kept.drewN ?_ _ | with_reducible refine Kept.alloc ?_ _ | (with_reducible refine Kept.setCell ?_ (by first | exact Nat.le_refl _ | omega | (simp; done) | (simp; omega)) _) | (with_reducible refine Kept.trans ?_ (by with_reducible assumption))))) HX.out).mono ?_; rintro e w2 ⟨rfl, hk2⟩)
            have hB1_2 := Kept.trans hB1_1 hk2
            obtain ⟨hc1_2, hf1_2⟩ := kept_cells hB1_2
            have hz1_0_2 : w.heap.size < w2.heap.size := by have := hB1_2.size; simp at this; omega
            have hz1_1_2 : w.heap.size + 1 < w2.heap.size := by have := hB1_2.size; simp at this; omega
            go_wp2_with fail
            (go_at_call 17; refine (Convert_all _ _ _ _ _ _ _ _ _ _ (KT.out _ (by repeat (first | with_reducible exact Kept.refl _ | with_reducible assumption | with_reducible refine Kept.drew ?_ | with_reducible refine Kept.drewN ?_ _ | with_reducible refine Kept.alloc ?_ _ | (with_reducible refine Kept.setCell ?_ (by first | exact Nat.le_refl _ | omega | (simp; done) | (simp; omega)) _) | (with_reducible refine Kept.trans ?_ (by with_reducible assumption))))) HZ.out).mono ?_; rintro e w3 ⟨rfl, hk3⟩)
            have hB1_3 := Kept.trans (Kept.alloc hB1_2 _) hk3
            have hB3_3 := hk3
            obtain ⟨hc1_3, hf1_3⟩ := kept_cells hB1_3
            have hz1_0_3 : w.heap.size < w3.heap.size := by have := hB1_3.size; simp at this; omega
            have hz1_1_3 : w.heap.size + 1 < w3.heap.size := by have := hB1_3.size; simp at this; omega
            obtain ⟨hc3_3, hf3_3⟩ := kept_cells hB3_3
            have hz3_0_3 : w2.heap.size < w3.heap.size := by have := hB3_3.size; simp at this; omega
            go_wp2_with fail
            go_region_held3 (fun w' => Kept (w3.alloc (.cells #[.int .i64 x1, .int .i64 x2, .int .i64 z3] 23)) w' ∧ (∀ b o, b < (w3.alloc (.cells #[.int .i64 x1, .int .i64 x2, .int .i64 z3] 23)).heap.size → w'.cell? ⟨b, o, none⟩ = (w3.alloc (.cells #[.int .i64 x1, .int .i64 x2, .int .i64 z3] 23)).cell? ⟨b, o, none⟩)) (first | exact held_of (Kept.drew (Kept.refl _)) | exact held_of (Kept.trans (And.left (by assumption)) (by assumption))) (first | (go_at_call 18; (with_reducible refine (KL1.out _).mono ?_); rintro e w1 ⟨rfl, hk1⟩) | (go_at_call 18; (with_reducible refine (KL2.out _).mono ?_); rintro e w1 ⟨rfl, hk1⟩))
            go_wp2
            go_ret
            exact ⟨rfl, (by repeat (first | with_reducible exact Kept.refl _ | with_reducible assumption | with_reducible refine Kept.drew ?_ | with_reducible refine Kept.drewN ?_ _ | with_reducible refine Kept.alloc ?_ _ | (with_reducible refine Kept.setCell ?_ (by first | exact Nat.le_refl _ | omega | (simp; done) | (simp; omega)) _) | (with_reducible refine Kept.trans ?_ (by with_reducible assumption))))⟩
        · clear q
          have U : (m == m') = false := by simpa using u
          rcases diff x1 x2 x3 z1 z2 z3 with v | v | ⟨rfl, v⟩ | ⟨rfl, rfl, v⟩
          · exact absurd v q'
          · clear q'
            have V : (x1 == z1) = false := by simpa using v
            go_enter Tryd.func4, Tryd.ntmps4
            go_wp2_with fail
            (go_at_call 13; refine (Civ_awake _ (KT.out _ (by repeat (first | with_reducible exact Kept.refl _ | with_reducible assumption | with_reducible refine Kept.drew ?_ | with_reducible refine Kept.drewN ?_ _ | with_reducible refine Kept.alloc ?_ _ | (with_reducible refine Kept.setCell ?_ (by first | exact Nat.le_refl _ | omega | (simp; done) | (simp; omega)) _) | (with_reducible refine Kept.trans ?_ (by with_reducible assumption)))))).mono ?_; rintro e w1 ⟨rfl, hk1⟩)
            have hB1_1 := hk1
            obtain ⟨hc1_1, hf1_1⟩ := kept_cells hB1_1
            have hz1_0_1 : w.heap.size < w1.heap.size := by have := hB1_1.size; simp at this; omega
            have hz1_1_1 : w.heap.size + 1 < w1.heap.size := by have := hB1_1.size; simp at this; omega
            go_wp2_with fail
            (go_at_call 17; refine (Convert_all _ _ _ _ _ _ _ _ _ _ (KT.out _ (by repeat (first | with_reducible exact Kept.refl _ | with_reducible assumption | with_reducible refine Kept.drew ?_ | with_reducible refine Kept.drewN ?_ _ | with_reducible refine Kept.alloc ?_ _ | (with_reducible refine Kept.setCell ?_ (by first | exact Nat.le_refl _ | omega | (simp; done) | (simp; omega)) _) | (with_reducible refine Kept.trans ?_ (by with_reducible assumption))))) HX.out).mono ?_; rintro e w2 ⟨rfl, hk2⟩)
            have hB1_2 := Kept.trans hB1_1 hk2
            obtain ⟨hc1_2, hf1_2⟩ := kept_cells hB1_2
            have hz1_0_2 : w.heap.size < w2.heap.size := by have := hB1_2.size; simp at this; omega
            have hz1_1_2 : w.heap.size + 1 < w2.heap.size := by have := hB1_2.size; simp at this; omega
            go_wp2_with fail
            (go_at_call 17; refine (Convert_all _ _ _ _ _ _ _ _ _ _ (KT.out _ (by repeat (first | with_reducible exact Kept.refl _ | with_reducible assumption | with_reducible refine Kept.drew ?_ | with_reducible refine Kept.drewN ?_ _ | with_reducible refine Kept.alloc ?_ _ | (with_reducible refine Kept.setCell ?_ (by first | exact Nat.le_refl _ | omega | (simp; done) | (simp; omega)) _) | (with_reducible refine Kept.trans ?_ (by with_reducible assumption))))) HZ.out).mono ?_; rintro e w3 ⟨rfl, hk3⟩)
            have hB1_3 := Kept.trans (Kept.alloc hB1_2 _) hk3
            have hB3_3 := hk3
            obtain ⟨hc1_3, hf1_3⟩ := kept_cells hB1_3
            have hz1_0_3 : w.heap.size < w3.heap.size := by have := hB1_3.size; simp at this; omega
            have hz1_1_3 : w.heap.size + 1 < w3.heap.size := by have := hB1_3.size; simp at this; omega
            obtain ⟨hc3_3, hf3_3⟩ := kept_cells hB3_3
            have hz3_0_3 : w2.heap.size < w3.heap.size := by have := hB3_3.size; simp at this; omega
            go_wp2_with fail
            go_region_held3 (fun w' => Kept (w3.alloc (.cells #[.int .i64 z1, .int .i64 z2, .int .i64 z3] 23)) w' ∧ (∀ b o, b < (w3.alloc (.cells #[.int .i64 z1, .int .i64 z2, .int .i64 z3] 23)).heap.size → w'.cell? ⟨b, o, none⟩ = (w3.alloc (.cells #[.int .i64 z1, .int .i64 z2, .int .i64 z3] 23)).cell? ⟨b, o, none⟩)) (first | exact held_of (Kept.drew (Kept.refl _)) | exact held_of (Kept.trans (And.left (by assumption)) (by assumption))) (first | (go_at_call 18; (with_reducible refine (KL1.out _).mono ?_); rintro e w1 ⟨rfl, hk1⟩) | (go_at_call 18; (with_reducible refine (KL2.out _).mono ?_); rintro e w1 ⟨rfl, hk1⟩))
            go_wp2
            go_ret
            exact ⟨rfl, (by repeat (first | with_reducible exact Kept.refl _ | with_reducible assumption | with_reducible refine Kept.drew ?_ | with_reducible refine Kept.drewN ?_ _ | with_reducible refine Kept.alloc ?_ _ | (with_reducible refine Kept.setCell ?_ (by first | exact Nat.le_refl _ | omega | (simp; done) | (simp; omega)) _) | (with_reducible refine Kept.trans ?_ (by with_reducible assumption))))⟩
          · clear q'
            have V : (x2 == z2) = false := by simpa using v
            go_enter Tryd.func4, Tryd.ntmps4
            go_wp2_with fail
            (go_at_call 13; refine (Civ_awake _ (KT.out _ (by repeat (first | with_reducible exact Kept.refl _ | with_reducible assumption | with_reducible refine Kept.drew ?_ | with_reducible refine Kept.drewN ?_ _ | with_reducible refine Kept.alloc ?_ _ | (with_reducible refine Kept.setCell ?_ (by first | exact Nat.le_refl _ | omega | (simp; done) | (simp; omega)) _) | (with_reducible refine Kept.trans ?_ (by with_reducible assumption)))))).mono ?_; rintro e w1 ⟨rfl, hk1⟩)
            have hB1_1 := hk1
            obtain ⟨hc1_1, hf1_1⟩ := kept_cells hB1_1
            have hz1_0_1 : w.heap.size < w1.heap.size := by have := hB1_1.size; simp at this; omega
            have hz1_1_1 : w.heap.size + 1 < w1.heap.size := by have := hB1_1.size; simp at this; omega
            go_wp2_with fail
            (go_at_call 17; refine (Convert_all _ _ _ _ _ _ _ _ _ _ (KT.out _ (by repeat (first | with_reducible exact Kept.refl _ | with_reducible assumption | with_reducible refine Kept.drew ?_ | with_reducible refine Kept.drewN ?_ _ | with_reducible refine Kept.alloc ?_ _ | (with_reducible refine Kept.setCell ?_ (by first | exact Nat.le_refl _ | omega | (simp; done) | (simp; omega)) _) | (with_reducible refine Kept.trans ?_ (by with_reducible assumption))))) HX.out).mono ?_; rintro e w2 ⟨rfl, hk2⟩)
            have hB1_2 := Kept.trans hB1_1 hk2
            obtain ⟨hc1_2, hf1_2⟩ := kept_cells hB1_2
            have hz1_0_2 : w.heap.size < w2.heap.size := by have := hB1_2.size; simp at this; omega
            have hz1_1_2 : w.heap.size + 1 < w2.heap.size := by have := hB1_2.size; simp at this; omega
            go_wp2_with fail
            (go_at_call 17; refine (Convert_all _ _ _ _ _ _ _ _ _ _ (KT.out _ (by repeat (first | with_reducible exact Kept.refl _ | with_reducible assumption | with_reducible refine Kept.drew ?_ | with_reducible refine Kept.drewN ?_ _ | with_reducible refine Kept.alloc ?_ _ | (with_reducible refine Kept.setCell ?_ (by first | exact Nat.le_refl _ | omega | (simp; done) | (simp; omega)) _) | (with_reducible refine Kept.trans ?_ (by with_reducible assumption))))) HZ.out).mono ?_; rintro e w3 ⟨rfl, hk3⟩)
            have hB1_3 := Kept.trans (Kept.alloc hB1_2 _) hk3
            have hB3_3 := hk3
            obtain ⟨hc1_3, hf1_3⟩ := kept_cells hB1_3
            have hz1_0_3 : w.heap.size < w3.heap.size := by have := hB1_3.size; simp at this; omega
            have hz1_1_3 : w.heap.size + 1 < w3.heap.size := by have := hB1_3.size; simp at this; omega
            obtain ⟨hc3_3, hf3_3⟩ := kept_cells hB3_3
            have hz3_0_3 : w2.heap.size < w3.heap.size := by have := hB3_3.size; simp at this; omega
            go_wp2_with fail
            go_region_held3 (fun w' => Kept (w3.alloc (.cells #[.int .i64 x1, .int .i64 z2, .int .i64 z3] 23)) w' ∧ (∀ b o, b < (w3.alloc (.cells #[.int .i64 x1, .int .i64 z2, .int .i64 z3] 23)).heap.size → w'.cell? ⟨b, o, none⟩ = (w3.alloc (.cells #[.int .i64 x1, .int .i64 z2, .int .i64 z3] 23)).cell? ⟨b, o, none⟩)) (first | exact held_of (Kept.drew (Kept.refl _)) | exact held_of (Kept.trans (And.left (by assumption)) (by assumption))) (first | (go_at_call 18; (with_reducible refine (KL1.out _).mono ?_); rintro e w1 ⟨rfl, hk1⟩) | (go_at_call 18; (with_reducible refine (KL2.out _).mono ?_); rintro e w1 ⟨rfl, hk1⟩))
            go_wp2
            go_ret
            exact ⟨rfl, (by repeat (first | with_reducible exact Kept.refl _ | with_reducible assumption | with_reducible refine Kept.drew ?_ | with_reducible refine Kept.drewN ?_ _ | with_reducible refine Kept.alloc ?_ _ | (with_reducible refine Kept.setCell ?_ (by first | exact Nat.le_refl _ | omega | (simp; done) | (simp; omega)) _) | (with_reducible refine Kept.trans ?_ (by with_reducible assumption))))⟩
          · clear q'
            have V : (x3 == z3) = false := by simpa using v
            go_enter Tryd.func4, Tryd.ntmps4
            go_wp2_with fail
            (go_at_call 13; refine (Civ_awake _ (KT.out _ (by repeat (first | with_reducible exact Kept.refl _ | with_reducible assumption | with_reducible refine Kept.drew ?_ | with_reducible refine Kept.drewN ?_ _ | with_reducible refine Kept.alloc ?_ _ | (with_reducible refine Kept.setCell ?_ (by first | exact Nat.le_refl _ | omega | (simp; done) | (simp; omega)) _) | (with_reducible refine Kept.trans ?_ (by with_reducible assumption)))))).mono ?_; rintro e w1 ⟨rfl, hk1⟩)
            have hB1_1 := hk1
            obtain ⟨hc1_1, hf1_1⟩ := kept_cells hB1_1
            have hz1_0_1 : w.heap.size < w1.heap.size := by have := hB1_1.size; simp at this; omega
            have hz1_1_1 : w.heap.size + 1 < w1.heap.size := by have := hB1_1.size; simp at this; omega
            go_wp2_with fail
            (go_at_call 17; refine (Convert_all _ _ _ _ _ _ _ _ _ _ (KT.out _ (by repeat (first | with_reducible exact Kept.refl _ | with_reducible assumption | with_reducible refine Kept.drew ?_ | with_reducible refine Kept.drewN ?_ _ | with_reducible refine Kept.alloc ?_ _ | (with_reducible refine Kept.setCell ?_ (by first | exact Nat.le_refl _ | omega | (simp; done) | (simp; omega)) _) | (with_reducible refine Kept.trans ?_ (by with_reducible assumption))))) HX.out).mono ?_; rintro e w2 ⟨rfl, hk2⟩)
            have hB1_2 := Kept.trans hB1_1 hk2
            obtain ⟨hc1_2, hf1_2⟩ := kept_cells hB1_2
            have hz1_0_2 : w.heap.size < w2.heap.size := by have := hB1_2.size; simp at this; omega
            have hz1_1_2 : w.heap.size + 1 < w2.heap.size := by have := hB1_2.size; simp at this; omega
            go_wp2_with fail
            (go_at_call 17; refine (Convert_all _ _ _ _ _ _ _ _ _ _ (KT.out _ (by repeat (first | with_reducible exact Kept.refl _ | with_reducible assumption | with_reducible refine Kept.drew ?_ | with_reducible refine Kept.drewN ?_ _ | with_reducible refine Kept.alloc ?_ _ | (with_reducible refine Kept.setCell ?_ (by first | exact Nat.le_refl _ | omega | (simp; done) | (simp; omega)) _) | (with_reducible refine Kept.trans ?_ (by with_reducible assumption))))) HZ.out).mono ?_; rintro e w3 ⟨rfl, hk3⟩)
            have hB1_3 := Kept.trans (Kept.alloc hB1_2 _) hk3
            have hB3_3 := hk3
            obtain ⟨hc1_3, hf1_3⟩ := kept_cells hB1_3
            have hz1_0_3 : w.heap.size < w3.heap.size := by have := hB1_3.size; simp at this; omega
            have hz1_1_3 : w.heap.size + 1 < w3.heap.size := by have := hB1_3.size; simp at this; omega
            obtain ⟨hc3_3, hf3_3⟩ := kept_cells hB3_3
            have hz3_0_3 : w2.heap.size < w3.heap.size := by have := hB3_3.size; simp at this; omega
            go_wp2_with fail
            go_region_held3 (fun w' => Kept (w3.alloc (.cells #[.int .i64 x1, .int .i64 x2, .int .i64 z3] 23)) w' ∧ (∀ b o, b < (w3.alloc (.cells #[.int .i64 x1, .int .i64 x2, .int .i64 z3] 23)).heap.size → w'.cell? ⟨b, o, none⟩ = (w3.alloc (.cells #[.int .i64 x1, .int .i64 x2, .int .i64 z3] 23)).cell? ⟨b, o, none⟩)) (first | exact held_of (Kept.drew (Kept.refl _)) | exact held_of (Kept.trans (And.left (by assumption)) (by assumption))) (first | (go_at_call 18; (with_reducible refine (KL1.out _).mono ?_); rintro e w1 ⟨rfl, hk1⟩) | (go_at_call 18; (with_reducible refine (KL2.out _).mono ?_); rintro e w1 ⟨rfl, hk1⟩))
            go_wp2
            go_ret
            exact ⟨rfl, (by repeat (first | with_reducible exact Kept.refl _ | with_reducible assumption | with_reducible refine Kept.drew ?_ | with_reducible refine Kept.drewN ?_ _ | with_reducible refine Kept.alloc ?_ _ | (with_reducible refine Kept.setCell ?_ (by first | exact Nat.le_refl _ | omega | (simp; done) | (simp; omega)) _) | (with_reducible refine Kept.trans ?_ (by with_reducible assumption))))⟩
        · clear q
          have U : (d == d') = false := by simpa using u
          rcases diff x1 x2 x3 z1 z2 z3 with v | v | ⟨rfl, v⟩ | ⟨rfl, rfl, v⟩
          · exact absurd v q'
          · clear q'
            have V : (x1 == z1) = false := by simpa using v
            go_enter Tryd.func4, Tryd.ntmps4
            go_wp2_with fail
            (go_at_call 13; refine (Civ_awake _ (KT.out _ (by repeat (first | with_reducible exact Kept.refl _ | with_reducible assumption | with_reducible refine Kept.drew ?_ | with_reducible refine Kept.drewN ?_ _ | with_reducible refine Kept.alloc ?_ _ | (with_reducible refine Kept.setCell ?_ (by first | exact Nat.le_refl _ | omega | (simp; done) | (simp; omega)) _) | (with_reducible refine Kept.trans ?_ (by with_reducible assumption)))))).mono ?_; rintro e w1 ⟨rfl, hk1⟩)
            have hB1_1 := hk1
            obtain ⟨hc1_1, hf1_1⟩ := kept_cells hB1_1
            have hz1_0_1 : w.heap.size < w1.heap.size := by have := hB1_1.size; simp at this; omega
            have hz1_1_1 : w.heap.size + 1 < w1.heap.size := by have := hB1_1.size; simp at this; omega
            go_wp2_with fail
            (go_at_call 17; refine (Convert_all _ _ _ _ _ _ _ _ _ _ (KT.out _ (by repeat (first | with_reducible exact Kept.refl _ | with_reducible assumption | with_reducible refine Kept.drew ?_ | with_reducible refine Kept.drewN ?_ _ | with_reducible refine Kept.alloc ?_ _ | (with_reducible refine Kept.setCell ?_ (by first | exact Nat.le_refl _ | omega | (simp; done) | (simp; omega)) _) | (with_reducible refine Kept.trans ?_ (by with_reducible assumption))))) HX.out).mono ?_; rintro e w2 ⟨rfl, hk2⟩)
            have hB1_2 := Kept.trans hB1_1 hk2
            obtain ⟨hc1_2, hf1_2⟩ := kept_cells hB1_2
            have hz1_0_2 : w.heap.size < w2.heap.size := by have := hB1_2.size; simp at this; omega
            have hz1_1_2 : w.heap.size + 1 < w2.heap.size := by have := hB1_2.size; simp at this; omega
            go_wp2_with fail
            (go_at_call 17; refine (Convert_all _ _ _ _ _ _ _ _ _ _ (KT.out _ (by repeat (first | with_reducible exact Kept.refl _ | with_reducible assumption | with_reducible refine Kept.drew ?_ | with_reducible refine Kept.drewN ?_ _ | with_reducible refine Kept.alloc ?_ _ | (with_reducible refine Kept.setCell ?_ (by first | exact Nat.le_refl _ | omega | (simp; done) | (simp; omega)) _) | (with_reducible refine Kept.trans ?_ (by with_reducible assumption))))) HZ.out).mono ?_; rintro e w3 ⟨rfl, hk3⟩)
            have hB1_3 := Kept.trans (Kept.alloc hB1_2 _) hk3
            have hB3_3 := hk3
            obtain ⟨hc1_3, hf1_3⟩ := kept_cells hB1_3
            have hz1_0_3 : w.heap.size < w3.heap.size := by have := hB1_3.size; simp at this; omega
            have hz1_1_3 : w.heap.size + 1 < w3.heap.size := by have := hB1_3.size; simp at this; omega
            obtain ⟨hc3_3, hf3_3⟩ := kept_cells hB3_3
            have hz3_0_3 : w2.heap.size < w3.heap.size := by have := hB3_3.size; simp at this; omega
            go_wp2_with fail
            go_region_held3 (fun w' => Kept (w3.alloc (.cells #[.int .i64 z1, .int .i64 z2, .int .i64 z3] 23)) w' ∧ (∀ b o, b < (w3.alloc (.cells #[.int .i64 z1, .int .i64 z2, .int .i64 z3] 23)).heap.size → w'.cell? ⟨b, o, none⟩ = (w3.alloc (.cells #[.int .i64 z1, .int .i64 z2, .int .i64 z3] 23)).cell? ⟨b, o, none⟩)) (first | exact held_of (Kept.drew (Kept.refl _)) | exact held_of (Kept.trans (And.left (by assumption)) (by assumption))) (first | (go_at_call 18; (with_reducible refine (KL1.out _).mono ?_); rintro e w1 ⟨rfl, hk1⟩) | (go_at_call 18; (with_reducible refine (KL2.out _).mono ?_); rintro e w1 ⟨rfl, hk1⟩))
            go_wp2
            go_ret
            exact ⟨rfl, (by repeat (first | with_reducible exact Kept.refl _ | with_reducible assumption | with_reducible refine Kept.drew ?_ | with_reducible refine Kept.drewN ?_ _ | with_reducible refine Kept.alloc ?_ _ | (with_reducible refine Kept.setCell ?_ (by first | exact Nat.le_refl _ | omega | (simp; done) | (simp; omega)) _) | (with_reducible refine Kept.trans ?_ (by with_reducible assumption))))⟩
          · clear q'
            have V : (x2 == z2) = false := by simpa using v
            go_enter Tryd.func4, Tryd.ntmps4
            go_wp2_with fail
            (go_at_call 13; refine (Civ_awake _ (KT.out _ (by repeat (first | with_reducible exact Kept.refl _ | with_reducible assumption | with_reducible refine Kept.drew ?_ | with_reducible refine Kept.drewN ?_ _ | with_reducible refine Kept.alloc ?_ _ | (with_reducible refine Kept.setCell ?_ (by first | exact Nat.le_refl _ | omega | (simp; done) | (simp; omega)) _) | (with_reducible refine Kept.trans ?_ (by with_reducible assumption)))))).mono ?_; rintro e w1 ⟨rfl, hk1⟩)
            have hB1_1 := hk1
            obtain ⟨hc1_1, hf1_1⟩ := kept_cells hB1_1
            have hz1_0_1 : w.heap.size < w1.heap.size := by have := hB1_1.size; simp at this; omega
            have hz1_1_1 : w.heap.size + 1 < w1.heap.size := by have := hB1_1.size; simp at this; omega
            go_wp2_with fail
            (go_at_call 17; refine (Convert_all _ _ _ _ _ _ _ _ _ _ (KT.out _ (by repeat (first | with_reducible exact Kept.refl _ | with_reducible assumption | with_reducible refine Kept.drew ?_ | with_reducible refine Kept.drewN ?_ _ | with_reducible refine Kept.alloc ?_ _ | (with_reducible refine Kept.setCell ?_ (by first | exact Nat.le_refl _ | omega | (simp; done) | (simp; omega)) _) | (with_reducible refine Kept.trans ?_ (by with_reducible assumption))))) HX.out).mono ?_; rintro e w2 ⟨rfl, hk2⟩)
            have hB1_2 := Kept.trans hB1_1 hk2
            obtain ⟨hc1_2, hf1_2⟩ := kept_cells hB1_2
            have hz1_0_2 : w.heap.size < w2.heap.size := by have := hB1_2.size; simp at this; omega
            have hz1_1_2 : w.heap.size + 1 < w2.heap.size := by have := hB1_2.size; simp at this; omega
            go_wp2_with fail
            (go_at_call 17; refine (Convert_all _ _ _ _ _ _ _ _ _ _ (KT.out _ (by repeat (first | with_reducible exact Kept.refl _ | with_reducible assumption | with_reducible refine Kept.drew ?_ | with_reducible refine Kept.drewN ?_ _ | with_reducible refine Kept.alloc ?_ _ | (with_reducible refine Kept.setCell ?_ (by first | exact Nat.le_refl _ | omega | (simp; done) | (simp; omega)) _) | (with_reducible refine Kept.trans ?_ (by with_reducible assumption))))) HZ.out).mono ?_; rintro e w3 ⟨rfl, hk3⟩)
            have hB1_3 := Kept.trans (Kept.alloc hB1_2 _) hk3
            have hB3_3 := hk3
            obtain ⟨hc1_3, hf1_3⟩ := kept_cells hB1_3
            have hz1_0_3 : w.heap.size < w3.heap.size := by have := hB1_3.size; simp at this; omega
            have hz1_1_3 : w.heap.size + 1 < w3.heap.size := by have := hB1_3.size; simp at this; omega
            obtain ⟨hc3_3, hf3_3⟩ := kept_cells hB3_3
            have hz3_0_3 : w2.heap.size < w3.heap.size := by have := hB3_3.size; simp at this; omega
            go_wp2_with fail
            go_region_held3 (fun w' => Kept (w3.alloc (.cells #[.int .i64 x1, .int .i64 z2, .int .i64 z3] 23)) w' ∧ (∀ b o, b < (w3.alloc (.cells #[.int .i64 x1, .int .i64 z2, .int .i64 z3] 23)).heap.size → w'.cell? ⟨b, o, none⟩ = (w3.alloc (.cells #[.int .i64 x1, .int .i64 z2, .int .i64 z3] 23)).cell? ⟨b, o, none⟩)) (first | exact held_of (Kept.drew (Kept.refl _)) | exact held_of (Kept.trans (And.left (by assumption)) (by assumption))) (first | (go_at_call 18; (with_reducible refine (KL1.out _).mono ?_); rintro e w1 ⟨rfl, hk1⟩) | (go_at_call 18; (with_reducible refine (KL2.out _).mono ?_); rintro e w1 ⟨rfl, hk1⟩))
            go_wp2
            go_ret
            exact ⟨rfl, (by repeat (first | with_reducible exact Kept.refl _ | with_reducible assumption | with_reducible refine Kept.drew ?_ | with_reducible refine Kept.drewN ?_ _ | with_reducible refine Kept.alloc ?_ _ | (with_reducible refine Kept.setCell ?_ (by first | exact Nat.le_refl _ | omega | (simp; done) | (simp; omega)) _) | (with_reducible refine Kept.trans ?_ (by with_reducible assumption))))⟩
          · clear q'
            have V : (x3 == z3) = false := by simpa using v
            go_enter Tryd.func4, Tryd.ntmps4
            go_wp2_with fail
            (go_at_call 13; refine (Civ_awake _ (KT.out _ (by repeat (first | with_reducible exact Kept.refl _ | with_reducible assumption | with_reducible refine Kept.drew ?_ | with_reducible refine Kept.drewN ?_ _ | with_reducible refine Kept.alloc ?_ _ | (with_reducible refine Kept.setCell ?_ (by first | exact Nat.le_refl _ | omega | (simp; done) | (simp; omega)) _) | (with_reducible refine Kept.trans ?_ (by with_reducible assumption)))))).mono ?_; rintro e w1 ⟨rfl, hk1⟩)
            have hB1_1 := hk1
            obtain ⟨hc1_1, hf1_1⟩ := kept_cells hB1_1
            have hz1_0_1 : w.heap.size < w1.heap.size := by have := hB1_1.size; simp at this; omega
            have hz1_1_1 : w.heap.size + 1 < w1.heap.size := by have := hB1_1.size; simp at this; omega
            go_wp2_with fail
            (go_at_call 17; refine (Convert_all _ _ _ _ _ _ _ _ _ _ (KT.out _ (by repeat (first | with_reducible exact Kept.refl _ | with_reducible assumption | with_reducible refine Kept.drew ?_ | with_reducible refine Kept.drewN ?_ _ | with_reducible refine Kept.alloc ?_ _ | (with_reducible refine Kept.setCell ?_ (by first | exact Nat.le_refl _ | omega | (simp; done) | (simp; omega)) _) | (with_reducible refine Kept.trans ?_ (by with_reducible assumption))))) HX.out).mono ?_; rintro e w2 ⟨rfl, hk2⟩)
            have hB1_2 := Kept.trans hB1_1 hk2
            obtain ⟨hc1_2, hf1_2⟩ := kept_cells hB1_2
            have hz1_0_2 : w.heap.size < w2.heap.size := by have := hB1_2.size; simp at this; omega
            have hz1_1_2 : w.heap.size + 1 < w2.heap.size := by have := hB1_2.size; simp at this; omega
            go_wp2_with fail
            (go_at_call 17; refine (Convert_all _ _ _ _ _ _ _ _ _ _ (KT.out _ (by repeat (first | with_reducible exact Kept.refl _ | with_reducible assumption | with_reducible refine Kept.drew ?_ | with_reducible refine Kept.drewN ?_ _ | with_reducible refine Kept.alloc ?_ _ | (with_reducible refine Kept.setCell ?_ (by first | exact Nat.le_refl _ | omega | (simp; done) | (simp; omega)) _) | (with_reducible refine Kept.trans ?_ (by with_reducible assumption))))) HZ.out).mono ?_; rintro e w3 ⟨rfl, hk3⟩)
            have hB1_3 := Kept.trans (Kept.alloc hB1_2 _) hk3
            have hB3_3 := hk3
            obtain ⟨hc1_3, hf1_3⟩ := kept_cells hB1_3
            have hz1_0_3 : w.heap.size < w3.heap.size := by have := hB1_3.size; simp at this; omega
            have hz1_1_3 : w.heap.size + 1 < w3.heap.size := by have := hB1_3.size; simp at this; omega
            obtain ⟨hc3_3, hf3_3⟩ := kept_cells hB3_3
            have hz3_0_3 : w2.heap.size < w3.heap.size := by have := hB3_3.size; simp at this; omega
            go_wp2_with fail
            go_region_held3 (fun w' => Kept (w3.alloc (.cells #[.int .i64 x1, .int .i64 x2, .int .i64 z3] 23)) w' ∧ (∀ b o, b < (w3.alloc (.cells #[.int .i64 x1, .int .i64 x2, .int .i64 z3] 23)).heap.size → w'.cell? ⟨b, o, none⟩ = (w3.alloc (.cells #[.int .i64 x1, .int .i64 x2, .int .i64 z3] 23)).cell? ⟨b, o, none⟩)) (first | exact held_of (Kept.drew (Kept.refl _)) | exact held_of (Kept.trans (And.left (by assumption)) (by assumption))) (first | (go_at_call 18; (with_reducible refine (KL1.out _).mono ?_); rintro e w1 ⟨rfl, hk1⟩) | (go_at_call 18; (with_reducible refine (KL2.out _).mono ?_); rintro e w1 ⟨rfl, hk1⟩))
            go_wp2
            go_ret
            exact ⟨rfl, (by repeat (first | with_reducible exact Kept.refl _ | with_reducible assumption | with_reducible refine Kept.drew ?_ | with_reducible refine Kept.drewN ?_ _ | with_reducible refine Kept.alloc ?_ _ | (with_reducible refine Kept.setCell ?_ (by first | exact Nat.le_refl _ | omega | (simp; done) | (simp; omega)) _) | (with_reducible refine Kept.trans ?_ (by with_reducible assumption))))⟩
    · clear hcx hcz
      go_enter Tryd.func4, Tryd.ntmps4
      go_wp2_with fail
      (go_at_call 13; refine (Civ_awake _ (KT.out _ (by repeat (first | with_reducible exact Kept.refl _ | with_reducible assumption | with_reducible refine Kept.drew ?_ | with_reducible refine Kept.drewN ?_ _ | with_reducible refine Kept.alloc ?_ _ | (with_reducible refine Kept.setCell ?_ (by first | exact Nat.le_refl _ | omega | (simp; done) | (simp; omega)) _) | (with_reducible refine Kept.trans ?_ (by with_reducible assumption)))))).mono ?_; rintro e w1 ⟨rfl, hk1⟩)
      have hB1_1 := hk1
      obtain ⟨hc1_1, hf1_1⟩ := kept_cells hB1_1
      have hz1_0_1 : w.heap.size < w1.heap.size := by have := hB1_1.size; simp at this; omega
      have hz1_1_1 : w.heap.size + 1 < w1.heap.size := by have := hB1_1.size; simp at this; omega
      go_wp2_with fail
      (go_at_call 17; refine (Convert_all _ _ _ _ _ _ _ _ _ _ (KT.out _ (by repeat (first | with_reducible exact Kept.refl _ | with_reducible assumption | with_reducible refine Kept.drew ?_ | with_reducible refine Kept.drewN ?_ _ | with_reducible refine Kept.alloc ?_ _ | (with_reducible refine Kept.setCell ?_ (by first | exact Nat.le_refl _ | omega | (simp; done) | (simp; omega)) _) | (with_reducible refine Kept.trans ?_ (by with_reducible assumption))))) HX.out).mono ?_; rintro e w2 ⟨rfl, hk2⟩)
      have hB1_2 := Kept.trans hB1_1 hk2
      obtain ⟨hc1_2, hf1_2⟩ := kept_cells hB1_2
      have hz1_0_2 : w.heap.size < w2.heap.size := by have := hB1_2.size; simp at this; omega
      have hz1_1_2 : w.heap.size + 1 < w2.heap.size := by have := hB1_2.size; simp at this; omega
      go_wp2_with fail
      (go_at_call 17; refine (Convert_all _ _ _ _ _ _ _ _ _ _ (KT.out _ (by repeat (first | with_reducible exact Kept.refl _ | with_reducible assumption | with_reducible refine Kept.drew ?_ | with_reducible refine Kept.drewN ?_ _ | with_reducible refine Kept.alloc ?_ _ | (with_reducible refine Kept.setCell ?_ (by first | exact Nat.le_refl _ | omega | (simp; done) | (simp; omega)) _) | (with_reducible refine Kept.trans ?_ (by with_reducible assumption))))) HZ.out).mono ?_; rintro e w3 ⟨rfl, hk3⟩)
      have hB1_3 := Kept.trans (Kept.alloc hB1_2 _) hk3
      have hB3_3 := hk3
      obtain ⟨hc1_3, hf1_3⟩ := kept_cells hB1_3
      have hz1_0_3 : w.heap.size < w3.heap.size := by have := hB1_3.size; simp at this; omega
      have hz1_1_3 : w.heap.size + 1 < w3.heap.size := by have := hB1_3.size; simp at this; omega
      obtain ⟨hc3_3, hf3_3⟩ := kept_cells hB3_3
      have hz3_0_3 : w2.heap.size < w3.heap.size := by have := hB3_3.size; simp at this; omega
      go_wp2
      go_ret
      exact ⟨rfl, (by repeat (first | with_reducible exact Kept.refl _ | with_reducible assumption | with_reducible refine Kept.drew ?_ | with_reducible refine Kept.drewN ?_ _ | with_reducible refine Kept.alloc ?_ _ | (with_reducible refine Kept.setCell ?_ (by first | exact Nat.le_refl _ | omega | (simp; done) | (simp; omega)) _) | (with_reducible refine Kept.trans ?_ (by with_reducible assumption))))⟩
  · clear hcx hcz
    go_enter Tryd.func4, Tryd.ntmps4
    go_wp2_with fail
    (go_at_call 13; refine (Civ_awake _ (KT.out _ (by repeat (first | with_reducible exact Kept.refl _ | with_reducible assumption | with_reducible refine Kept.drew ?_ | with_reducible refine Kept.drewN ?_ _ | with_reducible refine Kept.alloc ?_ _ | (with_reducible refine Kept.setCell ?_ (by first | exact Nat.le_refl _ | omega | (simp; done) | (simp; omega)) _) | (with_reducible refine Kept.trans ?_ (by with_reducible assumption)))))).mono ?_; rintro e w1 ⟨rfl, hk1⟩)
    have hB1_1 := hk1
    obtain ⟨hc1_1, hf1_1⟩ := kept_cells hB1_1
    have hz1_0_1 : w.heap.size < w1.heap.size := by have := hB1_1.size; simp at this; omega
    have hz1_1_1 : w.heap.size + 1 < w1.heap.size := by have := hB1_1.size; simp at this; omega
    go_wp2_with fail
    (go_at_call 17; refine (Convert_all _ _ _ _ _ _ _ _ _ _ (KT.out _ (by repeat (first | with_reducible exact Kept.refl _ | with_reducible assumption | with_reducible refine Kept.drew ?_ | with_reducible refine Kept.drewN ?_ _ | with_reducible refine Kept.alloc ?_ _ | (with_reducible refine Kept.setCell ?_ (by first | exact Nat.le_refl _ | omega | (simp; done) | (simp; omega)) _) | (with_reducible refine Kept.trans ?_ (by with_reducible assumption))))) HX.out).mono ?_; rintro e w2 ⟨rfl, hk2⟩)
    have hB1_2 := Kept.trans hB1_1 hk2
    obtain ⟨hc1_2, hf1_2⟩ := kept_cells hB1_2
    have hz1_0_2 : w.heap.size < w2.heap.size := by have := hB1_2.size; simp at this; omega
    have hz1_1_2 : w.heap.size + 1 < w2.heap.size := by have := hB1_2.size; simp at this; omega
    go_wp2_with fail
    (go_at_call 17; refine (Convert_all _ _ _ _ _ _ _ _ _ _ (KT.out _ (by repeat (first | with_reducible exact Kept.refl _ | with_reducible assumption | with_reducible refine Kept.drew ?_ | with_reducible refine Kept.drewN ?_ _ | with_reducible refine Kept.alloc ?_ _ | (with_reducible refine Kept.setCell ?_ (by first | exact Nat.le_refl _ | omega | (simp; done) | (simp; omega)) _) | (with_reducible refine Kept.trans ?_ (by with_reducible assumption))))) HZ.out).mono ?_; rintro e w3 ⟨rfl, hk3⟩)
    have hB1_3 := Kept.trans (Kept.alloc hB1_2 _) hk3
    have hB3_3 := hk3
    obtain ⟨hc1_3, hf1_3⟩ := kept_cells hB1_3
    have hz1_0_3 : w.heap.size < w3.heap.size := by have := hB1_3.size; simp at this; omega
    have hz1_1_3 : w.heap.size + 1 < w3.heap.size := by have := hB1_3.size; simp at this; omega
    obtain ⟨hc3_3, hf3_3⟩ := kept_cells hB3_3
    have hz3_0_3 : w2.heap.size < w3.heap.size := by have := hB3_3.size; simp at this; omega
    go_wp2
    go_ret
    exact ⟨rfl, (by repeat (first | with_reducible exact Kept.refl _ | with_reducible assumption | with_reducible refine Kept.drew ?_ | with_reducible refine Kept.drewN ?_ _ | with_reducible refine Kept.alloc ?_ _ | (with_reducible refine Kept.setCell ?_ (by first | exact Nat.le_refl _ | omega | (simp; done) | (simp; omega)) _) | (with_reducible refine Kept.trans ?_ (by with_reducible assumption))))⟩
theorem CivilOrder_walk1 (c y m d y' m' d' : Int) (c1 : 0 ≤ c) (c2 : c ≤ 255) (hc : c % 2 = 1) (w : World) (hT : Tab w) :
    Calls Tryd.prog 4 #[.int .u8 c, .agg #[.int .i64 y, .int .i64 m, .int .i64 d], .agg #[.int .i64 y', .int .i64 m', .int .i64 d']] w fun e w' => e = .returned (.bool true) ∧ Kept w w' := by
  have KT := Lib.hid (fun w' (k : Kept w w') => hT.kept k)
  clear hT
  obtain ⟨x1, x2, x3, e, hcx⟩ := cv_some y m d 2 1
  obtain ⟨z1, z2, z3, e', hcz⟩ := cv_some y' m' d' 2 1
  have HX := Lib.hid hcx
  have HZ := Lib.hid hcz
  rcases cv_err _ _ _ _ _ _ _ _ _ hcx with rfl | ⟨he, _⟩
  · rcases cv_err _ _ _ _ _ _ _ _ _ hcz with rfl | ⟨he, _⟩
    · obtain ⟨_, _, h1, h2, h3⟩ := cv_zero _ _ _ _ _ _ _ _ hcx
      obtain ⟨_, _, g1, g2, g3⟩ := cv_zero _ _ _ _ _ _ _ _ hcz
      have hiff : Before y m d y' m' d' ↔ Before x1 x2 x3 z1 z2 z3 := by
        rw [← num_lt_iff _ _ _ _ _ _ _ h1 g1, ← num_lt_iff _ _ _ _ _ _ _ h2 g2, h3, g3]
      have heq : (y = y' ∧ m = m' ∧ d = d') ↔ (x1 = z1 ∧ x2 = z2 ∧ x3 = z3) := by
        constructor
        · rintro ⟨rfl, rfl, rfl⟩
          exact num_inj _ _ _ _ _ _ _ h2 g2 (by rw [← h3, ← g3])
        · rintro ⟨rfl, rfl, rfl⟩
          exact num_inj _ _ _ _ _ _ _ h1 g1 (by rw [h3, g3])
      obtain ⟨bl, L1, L2⟩ := Less_both _ _ _ _ _ _ _ _ _ _ _ _ hiff
      have KL1 := Lib.hid L1
      have KL2 := Lib.hid L2
      clear hcx hcz h1 h2 h3 g1 g2 g3 L1 L2 hiff
      by_cases q : y = y' ∧ m = m' ∧ d = d'
      · obtain ⟨rfl, rfl, rfl⟩ := heq.1 q
        obtain ⟨rfl, rfl, rfl⟩ := q
        clear heq
        go_enter Tryd.func4, Tryd.ntmps4
        go_wp2_with fail
        (go_at_call 13; refine (Civ_awake _ (KT.out _ (by repeat (first | with_reducible exact Kept.refl _ | with_reducible assumption | with_reducible refine Kept.drew ?_ | with_reducible refine Kept.drewN ?_ _ | with_reducible refine Kept.alloc ?_ _ | (with_reducible refine Kept.setCell ?_ (by first | exact Nat.le_refl _ | omega | (simp; done) | (simp; omega)) _) | (with_reducible refine Kept.trans ?_ (by with_reducible assumption)))))).mono ?_; rintro e w1 ⟨rfl, hk1⟩)
        have hB1_1 := hk1
        obtain ⟨hc1_1, hf1_1⟩ := kept_cells hB1_1
        have hz1_0_1 : w.heap.size < w1.heap.size := by have := hB1_1.size; simp at this; omega
        have hz1_1_1 : w.heap.size + 1 < w1.heap.size := by have := hB1_1.size; simp at this; omega
        go_wp2_with fail
        (go_at_call 17; refine (Convert_all _ _ _ _ _ _ _ _ _ _ (KT.out _ (by repeat (first | with_reducible exact Kept.refl _ | with_reducible assumption | with_reducible refine Kept.drew ?_ | with_reducible refine Kept.drewN ?_ _ | with_reducible refine Kept.alloc ?_ _ | (with_reducible refine Kept.setCell ?_ (by first | exact Nat.le_refl _ | omega | (simp; done) | (simp; omega)) _) | (with_reducible refine Kept.trans ?_ (by with_reducible assumption))))) HX.out).mono ?_; rintro e w2 ⟨rfl, hk2⟩)
        have hB1_2 := Kept.trans hB1_1 hk2
        obtain ⟨hc1_2, hf1_2⟩ := kept_cells hB1_2
        have hz1_0_2 : w.heap.size < w2.heap.size := by have := hB1_2.size; simp at this; omega
        have hz1_1_2 : w.heap.size + 1 < w2.heap.size := by have := hB1_2.size; simp at this; omega
        go_wp2_with fail
        (go_at_call 17; refine (Convert_all _ _ _ _ _ _ _ _ _ _ (KT.out _ (by repeat (first | with_reducible exact Kept.refl _ | with_reducible assumption | with_reducible refine Kept.drew ?_ | with_reducible refine Kept.drewN ?_ _ | with_reducible refine Kept.alloc ?_ _ | (with_reducible refine Kept.setCell ?_ (by first | exact Nat.le_refl _ | omega | (simp; done) | (simp; omega)) _) | (with_reducible refine Kept.trans ?_ (by with_reducible assumption))))) HZ.out).mono ?_; rintro e w3 ⟨rfl, hk3⟩)
        have hB1_3 := Kept.trans (Kept.alloc hB1_2 _) hk3
        have hB3_3 := hk3
        obtain ⟨hc1_3, hf1_3⟩ := kept_cells hB1_3
        have hz1_0_3 : w.heap.size < w3.heap.size := by have := hB1_3.size; simp at this; omega
        have hz1_1_3 : w.heap.size + 1 < w3.heap.size := by have := hB1_3.size; simp at this; omega
        obtain ⟨hc3_3, hf3_3⟩ := kept_cells hB3_3
        have hz3_0_3 : w2.heap.size < w3.heap.size := by have := hB3_3.size; simp at this; omega
        go_wp2_with fail
        go_region_held3 (fun w' => Kept (w3.alloc (.cells #[.int .i64 x1, .int .i64 x2, .int .i64 x3] 23)) w' ∧ (∀ b o, b < (w3.alloc (.cells #[.int .i64 x1, .int .i64 x2, .int .i64 x3] 23)).heap.size → w'.cell? ⟨b, o, none⟩ = (w3.alloc (.cells #[.int .i64 x1, .int .i64 x2, .int .i64 x3] 23)).cell? ⟨b, o, none⟩)) (first | exact held_of (Kept.drew (Kept.refl _)) | exact held_of (Kept.trans (And.left (by assumption)) (by assumption))) (first | (go_at_call 18; (with_reducible refine (KL1.out _).mono ?_); rintro e w1 ⟨rfl, hk1⟩) | (go_at_call 18; (with_reducible refine (KL2.out _).mono ?_); rintro e w1 ⟨rfl, hk1⟩))
        go_wp2
        go_ret
        exact ⟨rfl, (by repeat (first | with_reducible exact Kept.refl _ | with_reducible assumption | with_reducible refine Kept.drew ?_ | with_reducible refine Kept.drewN ?_ _ | with_reducible refine Kept.alloc ?_ _ | (with_reducible refine Kept.setCell ?_ (by first | exact Nat.le_refl _ | omega | (simp; done) | (simp; omega)) _) | (with_reducible refine Kept.trans ?_ (by with_reducible assumption))))⟩
      · have q' : ¬ (x1 = z1 ∧ x2 = z2 ∧ x3 = z3) := fun h => q (heq.2 h)
        clear heq
        rcases diff y m d y' m' d' with u | u | ⟨rfl, u⟩ | ⟨rfl, rfl, u⟩
        · exact absurd u q
        · clear q
          have U : (y == y') = false := by simpa using u
          rcases diff x1 x2 x3 z1 z2 z3 with v | v | ⟨rfl, v⟩ | ⟨rfl, rfl, v⟩
          · exact absurd v q'
          · clear q'
            have V : (x1 == z1) = false := by simpa using v
            go_enter Tryd.func4, Tryd.ntmps4
            go_wp2_with fail
            (go_at_call 13; refine (Civ_awake _ (KT.out _ (by repeat (first | with_reducible exact Kept.refl _ | with_reducible assumption | with_reducible refine Kept.drew ?_ | with_reducible refine Kept.drewN ?_ _ | with_reducible refine Kept.alloc ?_ _ | (with_reducible refine Kept.setCell ?_ (by first | exact Nat.le_refl _ | omega | (simp; done) | (simp; omega)) _) | (with_reducible refine Kept.trans ?_ (by with_reducible assumption)))))).mono ?_; rintro e w1 ⟨rfl, hk1⟩)
            have hB1_1 := hk1
            obtain ⟨hc1_1, hf1_1⟩ := kept_cells hB1_1
            have hz1_0_1 : w.heap.size < w1.heap.size := by have := hB1_1.size; simp at this; omega
            have hz1_1_1 : w.heap.size + 1 < w1.heap.size := by have := hB1_1.size; simp at this; omega
            go_wp2_with fail
            (go_at_call 17; refine (Convert_all _ _ _ _ _ _ _ _ _ _ (KT.out _ (by repeat (first | with_reducible exact Kept.refl _ | with_reducible assumption | with_reducible refine Kept.drew ?_ | with_reducible refine Kept.drewN ?_ _ | with_reducible refine Kept.alloc ?_ _ | (with_reducible refine Kept.setCell ?_ (by first | exact Nat.le_refl _ | omega | (simp; done) | (simp; omega)) _) | (with_reducible refine Kept.trans ?_ (by with_reducible assumption))))) HX.out).mono ?_; rintro e w2 ⟨rfl, hk2⟩)
            have hB1_2 := Kept.trans hB1_1 hk2
            obtain ⟨hc1_2, hf1_2⟩ := kept_cells hB1_2
            have hz1_0_2 : w.heap.size < w2.heap.size := by have := hB1_2.size; simp at this; omega
            have hz1_1_2 : w.heap.size + 1 < w2.heap.size := by have := hB1_2.size; simp at this; omega
            go_wp2_with fail
            (go_at_call 17; refine (Convert_all _ _ _ _ _ _ _ _ _ _ (KT.out _ (by repeat (first | with_reducible exact Kept.refl _ | with_reducible assumption | with_reducible refine Kept.drew ?_ | with_reducible refine Kept.drewN ?_ _ | with_reducible refine Kept.alloc ?_ _ | (with_reducible refine Kept.setCell ?_ (by first | exact Nat.le_refl _ | omega | (simp; done) | (simp; omega)) _) | (with_reducible refine Kept.trans ?_ (by with_reducible assumption))))) HZ.out).mono ?_; rintro e w3 ⟨rfl, hk3⟩)
            have hB1_3 := Kept.trans (Kept.alloc hB1_2 _) hk3
            have hB3_3 := hk3
            obtain ⟨hc1_3, hf1_3⟩ := kept_cells hB1_3
            have hz1_0_3 : w.heap.size < w3.heap.size := by have := hB1_3.size; simp at this; omega
            have hz1_1_3 : w.heap.size + 1 < w3.heap.size := by have := hB1_3.size; simp at this; omega
            obtain ⟨hc3_3, hf3_3⟩ := kept_cells hB3_3
            have hz3_0_3 : w2.heap.size < w3.heap.size := by have := hB3_3.size; simp at this; omega
            go_wp2_with fail
            go_region_held3 (fun w' => Kept (w3.alloc (.cells #[.int .i64 z1, .int .i64 z2, .int .i64 z3] 23)) w' ∧ (∀ b o, b < (w3.alloc (.cells #[.int .i64 z1, .int .i64 z2, .int .i64 z3] 23)).heap.size → w'.cell? ⟨b, o, none⟩ = (w3.alloc (.cells #[.int .i64 z1, .int .i64 z2, .int .i64 z3] 23)).cell? ⟨b, o, none⟩)) (first | exact held_of (Kept.drew (Kept.refl _)) | exact held_of (Kept.trans (And.left (by assumption)) (by assumption))) (first | (go_at_call 18; (with_reducible refine (KL1.out _).mono ?_); rintro e w1 ⟨rfl, hk1⟩) | (go_at_call 18; (with_reducible refine (KL2.out _).mono ?_); rintro e w1 ⟨rfl, hk1⟩))
            go_wp2
            go_ret
            exact ⟨rfl, (by repeat (first | with_reducible exact Kept.refl _ | with_reducible assumption | with_reducible refine Kept.drew ?_ | with_reducible refine Kept.drewN ?_ _ | with_reducible refine Kept.alloc ?_ _ | (with_reducible refine Kept.setCell ?_ (by first | exact Nat.le_refl _ | omega | (simp; done) | (simp; omega)) _) | (with_reducible refine Kept.trans ?_ (by with_reducible assumption))))⟩
          · clear q'
            have V : (x2 == z2) = false := by simpa using v
            go_enter Tryd.func4, Tryd.ntmps4
            go_wp2_with fail
            (go_at_call 13; refine (Civ_awake _ (KT.out _ (by repeat (first | with_reducible exact Kept.refl _ | with_reducible assumption | with_reducible refine Kept.drew ?_ | with_reducible refine Kept.drewN ?_ _ | with_reducible refine Kept.alloc ?_ _ | (with_reducible refine Kept.setCell ?_ (by first | exact Nat.le_refl _ | omega | (simp; done) | (simp; omega)) _) | (with_reducible refine Kept.trans ?_ (by with_reducible assumption)))))).mono ?_; rintro e w1 ⟨rfl, hk1⟩)
            have hB1_1 := hk1
            obtain ⟨hc1_1, hf1_1⟩ := kept_cells hB1_1
            have hz1_0_1 : w.heap.size < w1.heap.size := by have := hB1_1.size; simp at this; omega
            have hz1_1_1 : w.heap.size + 1 < w1.heap.size := by have := hB1_1.size; simp at this; omega
            go_wp2_with fail
            (go_at_call 17; refine (Convert_all _ _ _ _ _ _ _ _ _ _ (KT.out _ (by repeat (first | with_reducible exact Kept.refl _ | with_reducible assumption | with_reducible refine Kept.drew ?_ | with_reducible refine Kept.drewN ?_ _ | with_reducible refine Kept.alloc ?_ _ | (with_reducible refine Kept.setCell ?_ (by first | exact Nat.le_refl _ | omega | (simp; done) | (simp; omega)) _) | (with_reducible refine Kept.trans ?_ (by with_reducible assumption))))) HX.out).mono ?_; rintro e w2 ⟨rfl, hk2⟩)
            have hB1_2 := Kept.trans hB1_1 hk2
            obtain ⟨hc1_2, hf1_2⟩ := kept_cells hB1_2
            have hz1_0_2 : w.heap.size < w2.heap.size := by have := hB1_2.size; simp at this; omega
            have hz1_1_2 : w.heap.size + 1 < w2.heap.size := by have := hB1_2.size; simp at this; omega
            go_wp2_with fail
            (go_at_call 17; refine (Convert_all _ _ _ _ _ _ _ _ _ _ (KT.out _ (by repeat (first | with_reducible exact Kept.refl _ | with_reducible assumption | with_reducible refine Kept.drew ?_ | with_reducible refine Kept.drewN ?_ _ | with_reducible refine Kept.alloc ?_ _ | (with_reducible refine Kept.setCell ?_ (by first | exact Nat.le_refl _ | omega | (simp; done) | (simp; omega)) _) | (with_reducible refine Kept.trans ?_ (by with_reducible assumption))))) HZ.out).mono ?_; rintro e w3 ⟨rfl, hk3⟩)
            have hB1_3 := Kept.trans (Kept.alloc hB1_2 _) hk3
            have hB3_3 := hk3
            obtain ⟨hc1_3, hf1_3⟩ := kept_cells hB1_3
            have hz1_0_3 : w.heap.size < w3.heap.size := by have := hB1_3.size; simp at this; omega
            have hz1_1_3 : w.heap.size + 1 < w3.heap.size := by have := hB1_3.size; simp at this; omega
            obtain ⟨hc3_3, hf3_3⟩ := kept_cells hB3_3
            have hz3_0_3 : w2.heap.size < w3.heap.size := by have := hB3_3.size; simp at this; omega
            go_wp2_with fail
            go_region_held3 (fun w' => Kept (w3.alloc (.cells #[.int .i64 x1, .int .i64 z2, .int .i64 z3] 23)) w' ∧ (∀ b o, b < (w3.alloc (.cells #[.int .i64 x1, .int .i64 z2, .int .i64 z3] 23)).heap.size → w'.cell? ⟨b, o, none⟩ = (w3.alloc (.cells #[.int .i64 x1, .int .i64 z2, .int .i64 z3] 23)).cell? ⟨b, o, none⟩)) (first | exact held_of (Kept.drew (Kept.refl _)) | exact held_of (Kept.trans (And.left (by assumption)) (by assumption))) (first | (go_at_call 18; (with_reducible refine (KL1.out _).mono ?_); rintro e w1 ⟨rfl, hk1⟩) | (go_at_call 18; (with_reducible refine (KL2.out _).mono ?_); rintro e w1 ⟨rfl, hk1⟩))
            go_wp2
            go_ret
            exact ⟨rfl, (by repeat (first | with_reducible exact Kept.refl _ | with_reducible assumption | with_reducible refine Kept.drew ?_ | with_reducible refine Kept.drewN ?_ _ | with_reducible refine Kept.alloc ?_ _ | (with_reducible refine Kept.setCell ?_ (by first | exact Nat.le_refl _ | omega | (simp; done) | (simp; omega)) _) | (with_reducible refine Kept.trans ?_ (by with_reducible assumption))))⟩
          · clear q'
            have V : (x3 == z3) = false := by simpa using v
            go_enter Tryd.func4, Tryd.ntmps4
            go_wp2_with fail
            (go_at_call 13; refine (Civ_awake _ (KT.out _ (by repeat (first | with_reducible exact Kept.refl _ | with_reducible assumption | with_reducible refine Kept.drew ?_ | with_reducible refine Kept.drewN ?_ _ | with_reducible refine Kept.alloc ?_ _ | (with_reducible refine Kept.setCell ?_ (by first | exact Nat.le_refl _ | omega | (simp; done) | (simp; omega)) _) | (with_reducible refine Kept.trans ?_ (by with_reducible assumption)))))).mono ?_; rintro e w1 ⟨rfl, hk1⟩)
            have hB1_1 := hk1
            obtain ⟨hc1_1, hf1_1⟩ := kept_cells hB1_1
            have hz1_0_1 : w.heap.size < w1.heap.size := by have := hB1_1.size; simp at this; omega
            have hz1_1_1 : w.heap.size + 1 < w1.heap.size := by have := hB1_1.size; simp at this; omega
            go_wp2_with fail
            (go_at_call 17; refine (Convert_all _ _ _ _ _ _ _ _ _ _ (KT.out _ (by repeat (first | with_reducible exact Kept.refl _ | with_reducible assumption | with_reducible refine Kept.drew ?_ | with_reducible refine Kept.drewN ?_ _ | with_reducible refine Kept.alloc ?_ _ | (with_reducible refine Kept.setCell ?_ (by first | exact Nat.le_refl _ | omega | (simp; done) | (simp; omega)) _) | (with_reducible refine Kept.trans ?_ (by with_reducible assumption))))) HX.out).mono ?_; rintro e w2 ⟨rfl, hk2⟩)
            have hB1_2 := Kept.trans hB1_1 hk2
            obtain ⟨hc1_2, hf1_2⟩ := kept_cells hB1_2
            have hz1_0_2 : w.heap.size < w2.heap.size := by have := hB1_2.size; simp at this; omega
            have hz1_1_2 : w.heap.size + 1 < w2.heap.size := by have := hB1_2.size; simp at this; omega
            go_wp2_with fail
            (go_at_call 17; refine (Convert_all _ _ _ _ _ _ _ _ _ _ (KT.out _ (by repeat (first | with_reducible exact Kept.refl _ | with_reducible assumption | with_reducible refine Kept.drew ?_ | with_reducible refine Kept.drewN ?_ _ | with_reducible refine Kept.alloc ?_ _ | (with_reducible refine Kept.setCell ?_ (by first | exact Nat.le_refl _ | omega | (simp; done) | (simp; omega)) _) | (with_reducible refine Kept.trans ?_ (by with_reducible assumption))))) HZ.out).mono ?_; rintro e w3 ⟨rfl, hk3⟩)
            have hB1_3 := Kept.trans (Kept.alloc hB1_2 _) hk3
            have hB3_3 := hk3
            obtain ⟨hc1_3, hf1_3⟩ := kept_cells hB1_3
            have hz1_0_3 : w.heap.size < w3.heap.size := by have := hB1_3.size; simp at this; omega
            have hz1_1_3 : w.heap.size + 1 < w3.heap.size := by have := hB1_3.size; simp at this; omega
            obtain ⟨hc3_3, hf3_3⟩ := kept_cells hB3_3
            have hz3_0_3 : w2.heap.size < w3.heap.size := by have := hB3_3.size; simp at this; omega
            go_wp2_with fail
            go_region_held3 (fun w' => Kept (w3.alloc (.cells #[.int .i64 x1, .int .i64 x2, .int .i64 z3] 23)) w' ∧ (∀ b o, b < (w3.alloc (.cells #[.int .i64 x1, .int .i64 x2, .int .i64 z3] 23)).heap.size → w'.cell? ⟨b, o, none⟩ = (w3.alloc (.cells #[.int .i64 x1, .int .i64 x2, .int .i64 z3] 23)).cell? ⟨b, o, none⟩)) (first | exact held_of (Kept.drew (Kept.refl _)) | exact held_of (Kept.trans (And.left (by assumption)) (by assumption))) (first | (go_at_call 18; (with_reducible refine (KL1.out _).mono ?_); rintro e w1 ⟨rfl, hk1⟩) | (go_at_call 18; (with_reducible refine (KL2.out _).mono ?_); rintro e w1 ⟨rfl, hk1⟩))
            go_wp2
            go_ret
            exact ⟨rfl, (by repeat (first | with_reducible exact Kept.refl _ | with_reducible assumption | with_reducible refine Kept.drew ?_ | with_reducible refine Kept.drewN ?_ _ | with_reducible refine Kept.alloc ?_ _ | (with_reducible refine Kept.setCell ?_ (by first | exact Nat.le_refl _ | omega | (simp; done) | (simp; omega)) _) | (with_reducible refine Kept.trans ?_ (by with_reducible assumption))))⟩
        · clear q
          have U : (m == m') = false := by simpa using u
          rcases diff x1 x2 x3 z1 z2 z3 with v | v | ⟨rfl, v⟩ | ⟨rfl, rfl, v⟩
          · exact absurd v q'
          · clear q'
            have V : (x1 == z1) = false := by simpa using v
            go_enter Tryd.func4, Tryd.ntmps4
            go_wp2_with fail
            (go_at_call 13; refine (Civ_awake _ (KT.out _ (by repeat (first | with_reducible exact Kept.refl _ | with_reducible assumption | with_reducible refine Kept.drew ?_ | with_reducible refine Kept.drewN ?_ _ | with_reducible refine Kept.alloc ?_ _ | (with_reducible refine Kept.setCell ?_ (by first | exact Nat.le_refl _ | omega | (simp; done) | (simp; omega)) _) | (with_reducible refine Kept.trans ?_ (by with_reducible assumption)))))).mono ?_; rintro e w1 ⟨rfl, hk1⟩)
            have hB1_1 := hk1
            obtain ⟨hc1_1, hf1_1⟩ := kept_cells hB1_1
            have hz1_0_1 : w.heap.size < w1.heap.size := by have := hB1_1.size; simp at this; omega
            have hz1_1_1 : w.heap.size + 1 < w1.heap.size := by have := hB1_1.size; simp at this; omega
            go_wp2_with fail
            (go_at_call 17; refine (Convert_all _ _ _ _ _ _ _ _ _ _ (KT.out _ (by repeat (first | with_reducible exact Kept.refl _ | with_reducible assumption | with_reducible refine Kept.drew ?_ | with_reducible refine Kept.drewN ?_ _ | with_reducible refine Kept.alloc ?_ _ | (with_reducible refine Kept.setCell ?_ (by first | exact Nat.le_refl _ | omega | (simp; done) | (simp; omega)) _) | (with_reducible refine Kept.trans ?_ (by with_reducible assumption))))) HX.out).mono ?_; rintro e w2 ⟨rfl, hk2⟩)
            have hB1_2 := Kept.trans hB1_1 hk2
            obtain ⟨hc1_2, hf1_2⟩ := kept_cells hB1_2
            have hz1_0_2 : w.heap.size < w2.heap.size := by have := hB1_2.size; simp at this; omega
            have hz1_1_2 : w.heap.size + 1 < w2.heap.size := by have := hB1_2.size; simp at this; omega
            go_wp2_with fail
            (go_at_call 17; refine (Convert_all _ _ _ _ _ _ _ _ _ _ (KT.out _ (by repeat (first | with_reducible exact Kept.refl _ | with_reducible assumption | with_reducible refine Kept.drew ?_ | with_reducible refine Kept.drewN ?_ _ | with_reducible refine Kept.alloc ?_ _ | (with_reducible refine Kept.setCell ?_ (by first | exact Nat.le_refl _ | omega | (simp; done) | (simp; omega)) _) | (with_reducible refine Kept.trans ?_ (by with_reducible assumption))))) HZ.out).mono ?_; rintro e w3 ⟨rfl, hk3⟩)
            have hB1_3 := Kept.trans (Kept.alloc hB1_2 _) hk3
            have hB3_3 := hk3
            obtain ⟨hc1_3, hf1_3⟩ := kept_cells hB1_3
            have hz1_0_3 : w.heap.size < w3.heap.size := by have := hB1_3.size; simp at this; omega
            have hz1_1_3 : w.heap.size + 1 < w3.heap.size := by have := hB1_3.size; simp at this; omega
            obtain ⟨hc3_3, hf3_3⟩ := kept_cells hB3_3
            have hz3_0_3 : w2.heap.size < w3.heap.size := by have := hB3_3.size; simp at this; omega
            go_wp2_with fail
            go_region_held3 (fun w' => Kept (w3.alloc (.cells #[.int .i64 z1, .int .i64 z2, .int .i64 z3] 23)) w' ∧ (∀ b o, b < (w3.alloc (.cells #[.int .i64 z1, .int .i64 z2, .int .i64 z3] 23)).heap.size → w'.cell? ⟨b, o, none⟩ = (w3.alloc (.cells #[.int .i64 z1, .int .i64 z2, .int .i64 z3] 23)).cell? ⟨b, o, none⟩)) (first | exact held_of (Kept.drew (Kept.refl _)) | exact held_of (Kept.trans (And.left (by assumption)) (by assumption))) (first | (go_at_call 18; (with_reducible refine (KL1.out _).mono ?_); rintro e w1 ⟨rfl, hk1⟩) | (go_at_call 18; (with_reducible refine (KL2.out _).mono ?_); rintro e w1 ⟨rfl, hk1⟩))
            go_wp2
            go_ret
            exact ⟨rfl, (by repeat (first | with_reducible exact Kept.refl _ | with_reducible assumption | with_reducible refine Kept.drew ?_ | with_reducible refine Kept.drewN ?_ _ | with_reducible refine Kept.alloc ?_ _ | (with_reducible refine Kept.setCell ?_ (by first | exact Nat.le_refl _ | omega | (simp; done) | (simp; omega)) _) | (with_reducible refine Kept.trans ?_ (by with_reducible assumption))))⟩
          · clear q'
            have V : (x2 == z2) = false := by simpa using v
            go_enter Tryd.func4, Tryd.ntmps4
            go_wp2_with fail
            (go_at_call 13; refine (Civ_awake _ (KT.out _ (by repeat (first | with_reducible exact Kept.refl _ | with_reducible assumption | with_reducible refine Kept.drew ?_ | with_reducible refine Kept.drewN ?_ _ | with_reducible refine Kept.alloc ?_ _ | (with_reducible refine Kept.setCell ?_ (by first | exact Nat.le_refl _ | omega | (simp; done) | (simp; omega)) _) | (with_reducible refine Kept.trans ?_ (by with_reducible assumption)))))).mono ?_; rintro e w1 ⟨rfl, hk1⟩)
            have hB1_1 := hk1
            obtain ⟨hc1_1, hf1_1⟩ := kept_cells hB1_1
            have hz1_0_1 : w.heap.size < w1.heap.size := by have := hB1_1.size; simp at this; omega
            have hz1_1_1 : w.heap.size + 1 < w1.heap.size := by have := hB1_1.size; simp at this; omega
            go_wp2_with fail
            (go_at_call 17; refine (Convert_all _ _ _ _ _ _ _ _ _ _ (KT.out _ (by repeat (first | with_reducible exact Kept.refl _ | with_reducible assumption | with_reducible refine Kept.drew ?_ | with_reducible refine Kept.drewN ?_ _ | with_reducible refine Kept.alloc ?_ _ | (with_reducible refine Kept.setCell ?_ (by first | exact Nat.le_refl _ | omega | (simp; done) | (simp; omega)) _) | (with_reducible refine Kept.trans ?_ (by with_reducible assumption))))) HX.out).mono ?_; rintro e w2 ⟨rfl, hk2⟩)
            have hB1_2 := Kept.trans hB1_1 hk2
            obtain ⟨hc1_2, hf1_2⟩ := kept_cells hB1_2
            have hz1_0_2 : w.heap.size < w2.heap.size := by have := hB1_2.size; simp at this; omega
            have hz1_1_2 : w.heap.size + 1 < w2.heap.size := by have := hB1_2.size; simp at this; omega
            go_wp2_with fail
            (go_at_call 17; refine (Convert_all _ _ _ _ _ _ _ _ _ _ (KT.out _ (by repeat (first | with_reducible exact Kept.refl _ | with_reducible assumption | with_reducible refine Kept.drew ?_ | with_reducible refine Kept.drewN ?_ _ | with_reducible refine Kept.alloc ?_ _ | (with_reducible refine Kept.setCell ?_ (by first | exact Nat.le_refl _ | omega | (simp; done) | (simp; omega)) _) | (with_reducible refine Kept.trans ?_ (by with_reducible assumption))))) HZ.out).mono ?_; rintro e w3 ⟨rfl, hk3⟩)
            have hB1_3 := Kept.trans (Kept.alloc hB1_2 _) hk3
            have hB3_3 := hk3
            obtain ⟨hc1_3, hf1_3⟩ := kept_cells hB1_3
            have hz1_0_3 : w.heap.size < w3.heap.size := by have := hB1_3.size; simp at this; omega
            have hz1_1_3 : w.heap.size + 1 < w3.heap.size := by have := hB1_3.size; simp at this; omega
            obtain ⟨hc3_3, hf3_3⟩ := kept_cells hB3_3
            have hz3_0_3 : w2.heap.size < w3.heap.size := by have := hB3_3.size; simp at this; omega
            go_wp2_with fail
            go_region_held3 (fun w' => Kept (w3.alloc (.cells #[.int .i64 x1, .int .i64 z2, .int .i64 z3] 23)) w' ∧ (∀ b o, b < (w3.alloc (.cells #[.int .i64 x1, .int .i64 z2, .int .i64 z3] 23)).heap.size → w'.cell? ⟨b, o, none⟩ = (w3.alloc (.cells #[.int .i64 x1, .int .i64 z2, .int .i64 z3] 23)).cell? ⟨b, o, none⟩)) (first | exact held_of (Kept.drew (Kept.refl _)) | exact held_of (Kept.trans (And.left (by assumption)) (by assumption))) (first | (go_at_call 18; (with_reducible refine (KL1.out _).mono ?_); rintro e w1 ⟨rfl, hk1⟩) | (go_at_call 18; (with_reducible refine (KL2.out _).mono ?_); rintro e w1 ⟨rfl, hk1⟩))
            go_wp2
            go_ret
            exact ⟨rfl, (by repeat (first | with_reducible exact Kept.refl _ | with_reducible assumption | with_reducible refine Kept.drew ?_ | with_reducible refine Kept.drewN ?_ _ | with_reducible refine Kept.alloc ?_ _ | (with_reducible refine Kept.setCell ?_ (by first | exact Nat.le_refl _ | omega | (simp; done) | (simp; omega)) _) | (with_reducible refine Kept.trans ?_ (by with_reducible assumption))))⟩
          · clear q'
            have V : (x3 == z3) = false := by simpa using v
            go_enter Tryd.func4, Tryd.ntmps4
            go_wp2_with fail
            (go_at_call 13; refine (Civ_awake _ (KT.out _ (by repeat (first | with_reducible exact Kept.refl _ | with_reducible assumption | with_reducible refine Kept.drew ?_ | with_reducible refine Kept.drewN ?_ _ | with_reducible refine Kept.alloc ?_ _ | (with_reducible refine Kept.setCell ?_ (by first | exact Nat.le_refl _ | omega | (simp; done) | (simp; omega)) _) | (with_reducible refine Kept.trans ?_ (by with_reducible assumption)))))).mono ?_; rintro e w1 ⟨rfl, hk1⟩)
            have hB1_1 := hk1
            obtain ⟨hc1_1, hf1_1⟩ := kept_cells hB1_1
            have hz1_0_1 : w.heap.size < w1.heap.size := by have := hB1_1.size; simp at this; omega
            have hz1_1_1 : w.heap.size + 1 < w1.heap.size := by have := hB1_1.size; simp at this; omega
            go_wp2_with fail
            (go_at_call 17; refine (Convert_all _ _ _ _ _ _ _ _ _ _ (KT.out _ (by repeat (first | with_reducible exact Kept.refl _ | with_reducible assumption | with_reducible refine Kept.drew ?_ | with_reducible refine Kept.drewN ?_ _ | with_reducible refine Kept.alloc ?_ _ | (with_reducible refine Kept.setCell ?_ (by first | exact Nat.le_refl _ | omega | (simp; done) | (simp; omega)) _) | (with_reducible refine Kept.trans ?_ (by with_reducible assumption))))) HX.out).mono ?_; rintro e w2 ⟨rfl, hk2⟩)
            have hB1_2 := Kept.trans hB1_1 hk2
            obtain ⟨hc1_2, hf1_2⟩ := kept_cells hB1_2
            have hz1_0_2 : w.heap.size < w2.heap.size := by have := hB1_2.size; simp at this; omega
            have hz1_1_2 : w.heap.size + 1 < w2.heap.size := by have := hB1_2.size; simp at this; omega
            go_wp2_with fail
            (go_at_call 17; refine (Convert_all _ _ _ _ _ _ _ _ _ _ (KT.out _ (by repeat (first | with_reducible exact Kept.refl _ | with_reducible assumption | with_reducible refine Kept.drew ?_ | with_reducible refine Kept.drewN ?_ _ | with_reducible refine Kept.alloc ?_ _ | (with_reducible refine Kept.setCell ?_ (by first | exact Nat.le_refl _ | omega | (simp; done) | (simp; omega)) _) | (with_reducible refine Kept.trans ?_ (by with_reducible assumption))))) HZ.out).mono ?_; rintro e w3 ⟨rfl, hk3⟩)
            have hB1_3 := Kept.trans (Kept.alloc hB1_2 _) hk3
            have hB3_3 := hk3
            obtain ⟨hc1_3, hf1_3⟩ := kept_cells hB1_3
            have hz1_0_3 : w.heap.size < w3.heap.size := by have := hB1_3.size; simp at this; omega
            have hz1_1_3 : w.heap.size + 1 < w3.heap.size := by have := hB1_3.size; simp at this; omega
            obtain ⟨hc3_3, hf3_3⟩ := kept_cells hB3_3
            have hz3_0_3 : w2.heap.size < w3.heap.size := by have := hB3_3.size; simp at this; omega
            go_wp2_with fail
            go_region_held3 (fun w' => Kept (w3.alloc (.cells #[.int .i64 x1, .int .i64 x2, .int .i64 z3] 23)) w' ∧ (∀ b o, b < (w3.alloc (.cells #[.int .i64 x1, .int .i64 x2, .int .i64 z3] 23)).heap.size → w'.cell? ⟨b, o, none⟩ = (w3.alloc (.cells #[.int .i64 x1, .int .i64 x2, .int .i64 z3] 23)).cell? ⟨b, o, none⟩)) (first | exact held_of (Kept.drew (Kept.refl _)) | exact held_of (Kept.trans (And.left (by assumption)) (by assumption))) (first | (go_at_call 18; (with_reducible refine (KL1.out _).mono ?_); rintro e w1 ⟨rfl, hk1⟩) | (go_at_call 18; (with_reducible refine (KL2.out _).mono ?_); rintro e w1 ⟨rfl, hk1⟩))
            go_wp2
            go_ret
            exact ⟨rfl, (by repeat (first | with_reducible exact Kept.refl _ | with_reducible assumption | with_reducible refine Kept.drew ?_ | with_reducible refine Kept.drewN ?_ _ | with_reducible refine Kept.alloc ?_ _ | (with_reducible refine Kept.setCell ?_ (by first | exact Nat.le_refl _ | omega | (simp; done) | (simp; omega)) _) | (with_reducible refine Kept.trans ?_ (by with_reducible assumption))))⟩
        · clear q
          have U : (d == d') = false := by simpa using u
          rcases diff x1 x2 x3 z1 z2 z3 with v | v | ⟨rfl, v⟩ | ⟨rfl, rfl, v⟩
          · exact absurd v q'
          · clear q'
            have V : (x1 == z1) = false := by simpa using v
            go_enter Tryd.func4, Tryd.ntmps4
            go_wp2_with fail
            (go_at_call 13; refine (Civ_awake _ (KT.out _ (by repeat (first | with_reducible exact Kept.refl _ | with_reducible assumption | with_reducible refine Kept.drew ?_ | with_reducible refine Kept.drewN ?_ _ | with_reducible refine Kept.alloc ?_ _ | (with_reducible refine Kept.setCell ?_ (by first | exact Nat.le_refl _ | omega | (simp; done) | (simp; omega)) _) | (with_reducible refine Kept.trans ?_ (by with_reducible assumption)))))).mono ?_; rintro e w1 ⟨rfl, hk1⟩)
            have hB1_1 := hk1
            obtain ⟨hc1_1, hf1_1⟩ := kept_cells hB1_1
            have hz1_0_1 : w.heap.size < w1.heap.size := by have := hB1_1.size; simp at this; omega
            have hz1_1_1 : w.heap.size + 1 < w1.heap.size := by have := hB1_1.size; simp at this; omega
            go_wp2_with fail
            (go_at_call 17; refine (Convert_all _ _ _ _ _ _ _ _ _ _ (KT.out _ (by repeat (first | with_reducible exact Kept.refl _ | with_reducible assumption | with_reducible refine Kept.drew ?_ | with_reducible refine Kept.drewN ?_ _ | with_reducible refine Kept.alloc ?_ _ | (with_reducible refine Kept.setCell ?_ (by first | exact Nat.le_refl _ | omega | (simp; done) | (simp; omega)) _) | (with_reducible refine Kept.trans ?_ (by with_reducible assumption))))) HX.out).mono ?_; rintro e w2 ⟨rfl, hk2⟩)
            have hB1_2 := Kept.trans hB1_1 hk2
            obtain ⟨hc1_2, hf1_2⟩ := kept_cells hB1_2
            have hz1_0_2 : w.heap.size < w2.heap.size := by have := hB1_2.size; simp at this; omega
            have hz1_1_2 : w.heap.size + 1 < w2.heap.size := by have := hB1_2.size; simp at this; omega
            go_wp2_with fail
            (go_at_call 17; refine (Convert_all _ _ _ _ _ _ _ _ _ _ (KT.out _ (by repeat (first | with_reducible exact Kept.refl _ | with_reducible assumption | with_reducible refine Kept.drew ?_ | with_reducible refine Kept.drewN ?_ _ | with_reducible refine Kept.alloc ?_ _ | (with_reducible refine Kept.setCell ?_ (by first | exact Nat.le_refl _ | omega | (simp; done) | (simp; omega)) _) | (with_reducible refine Kept.trans ?_ (by with_reducible assumption))))) HZ.out).mono ?_; rintro e w3 ⟨rfl, hk3⟩)
            have hB1_3 := Kept.trans (Kept.alloc hB1_2 _) hk3
            have hB3_3 := hk3
            obtain ⟨hc1_3, hf1_3⟩ := kept_cells hB1_3
            have hz1_0_3 : w.heap.size < w3.heap.size := by have := hB1_3.size; simp at this; omega
            have hz1_1_3 : w.heap.size + 1 < w3.heap.size := by have := hB1_3.size; simp at this; omega
            obtain ⟨hc3_3, hf3_3⟩ := kept_cells hB3_3
            have hz3_0_3 : w2.heap.size < w3.heap.size := by have := hB3_3.size; simp at this; omega
            go_wp2_with fail
            go_region_held3 (fun w' => Kept (w3.alloc (.cells #[.int .i64 z1, .int .i64 z2, .int .i64 z3] 23)) w' ∧ (∀ b o, b < (w3.alloc (.cells #[.int .i64 z1, .int .i64 z2, .int .i64 z3] 23)).heap.size → w'.cell? ⟨b, o, none⟩ = (w3.alloc (.cells #[.int .i64 z1, .int .i64 z2, .int .i64 z3] 23)).cell? ⟨b, o, none⟩)) (first | exact held_of (Kept.drew (Kept.refl _)) | exact held_of (Kept.trans (And.left (by assumption)) (by assumption))) (first | (go_at_call 18; (with_reducible refine (KL1.out _).mono ?_); rintro e w1 ⟨rfl, hk1⟩) | (go_at_call 18; (with_reducible refine (KL2.out _).mono ?_); rintro e w1 ⟨rfl, hk1⟩))
            go_wp2
            go_ret
            exact ⟨rfl, (by repeat (first | with_reducible exact Kept.refl _ | with_reducible assumption | with_reducible refine Kept.drew ?_ | with_reducible refine Kept.drewN ?_ _ | with_reducible refine Kept.alloc ?_ _ | (with_reducible refine Kept.setCell ?_ (by first | exact Nat.le_refl _ | omega | (simp; done) | (simp; omega)) _) | (with_reducible refine Kept.trans ?_ (by with_reducible assumption))))⟩
          · clear q'
            have V : (x2 == z2) = false := by simpa using v
            go_enter Tryd.func4, Tryd.ntmps4
            go_wp2_with fail
            (go_at_call 13; refine (Civ_awake _ (KT.out _ (by repeat (first | with_reducible exact Kept.refl _ | with_reducible assumption | with_reducible refine Kept.drew ?_ | with_reducible refine Kept.drewN ?_ _ | with_reducible refine Kept.alloc ?_ _ | (with_reducible refine Kept.setCell ?_ (by first | exact Nat.le_refl _ | omega | (simp; done) | (simp; omega)) _) | (with_reducible refine Kept.trans ?_ (by with_reducible assumption)))))).mono ?_; rintro e w1 ⟨rfl, hk1⟩)
            have hB1_1 := hk1
            obtain ⟨hc1_1, hf1_1⟩ := kept_cells hB1_1
            have hz1_0_1 : w.heap.size < w1.heap.size := by have := hB1_1.size; simp at this; omega
            have hz1_1_1 : w.heap.size + 1 < w1.heap.size := by have := hB1_1.size; simp at this; omega
            go_wp2_with fail
            (go_at_call 17; refine (Convert_all _ _ _ _ _ _ _ _ _ _ (KT.out _ (by repeat (first | with_reducible exact Kept.refl _ | with_reducible assumption | with_reducible refine Kept.drew ?_ | with_reducible refine Kept.drewN ?_ _ | with_reducible refine Kept.alloc ?_ _ | (with_reducible refine Kept.setCell ?_ (by first | exact Nat.le_refl _ | omega | (simp; done) | (simp; omega)) _) | (with_reducible refine Kept.trans ?_ (by with_reducible assumption))))) HX.out).mono ?_; rintro e w2 ⟨rfl, hk2⟩)
            have hB1_2 := Kept.trans hB1_1 hk2
            obtain ⟨hc1_2, hf1_2⟩ := kept_cells hB1_2
            have hz1_0_2 : w.heap.size < w2.heap.size := by have := hB1_2.size; simp at this; omega
            have hz1_1_2 : w.heap.size + 1 < w2.heap.size := by have := hB1_2.size; simp at this; omega
            go_wp2_with fail
            (go_at_call 17; refine (Convert_all _ _ _ _ _ _ _ _ _ _ (KT.out _ (by repeat (first | with_reducible exact Kept.refl _ | with_reducible assumption | with_reducible refine Kept.drew ?_ | with_reducible refine Kept.drewN ?_ _ | with_reducible refine Kept.alloc ?_ _ | (with_reducible refine Kept.setCell ?_ (by first | exact Nat.le_refl _ | omega | (simp; done) | (simp; omega)) _) | (with_reducible refine Kept.trans ?_ (by with_reducible assumption))))) HZ.out).mono ?_; rintro e w3 ⟨rfl, hk3⟩)
            have hB1_3 := Kept.trans (Kept.alloc hB1_2 _) hk3
            have hB3_3 := hk3
            obtain ⟨hc1_3, hf1_3⟩ := kept_cells hB1_3
            have hz1_0_3 : w.heap.size < w3.heap.size := by have := hB1_3.size; simp at this; omega
            have hz1_1_3 : w.heap.size + 1 < w3.heap.size := by have := hB1_3.size; simp at this; omega
            obtain ⟨hc3_3, hf3_3⟩ := kept_cells hB3_3
            have hz3_0_3 : w2.heap.size < w3.heap.size := by have := hB3_3.size; simp at this; omega
            go_wp2_with fail
            go_region_held3 (fun w' => Kept (w3.alloc (.cells #[.int .i64 x1, .int .i64 z2, .int .i64 z3] 23)) w' ∧ (∀ b o, b < (w3.alloc (.cells #[.int .i64 x1, .int .i64 z2, .int .i64 z3] 23)).heap.size → w'.cell? ⟨b, o, none⟩ = (w3.alloc (.cells #[.int .i64 x1, .int .i64 z2, .int .i64 z3] 23)).cell? ⟨b, o, none⟩)) (first | exact held_of (Kept.drew (Kept.refl _)) | exact held_of (Kept.trans (And.left (by assumption)) (by assumption))) (first | (go_at_call 18; (with_reducible refine (KL1.out _).mono ?_); rintro e w1 ⟨rfl, hk1⟩) | (go_at_call 18; (with_reducible refine (KL2.out _).mono ?_); rintro e w1 ⟨rfl, hk1⟩))
            go_wp2
            go_ret
            exact ⟨rfl, (by repeat (first | with_reducible exact Kept.refl _ | with_reducible assumption | with_reducible refine Kept.drew ?_ | with_reducible refine Kept.drewN ?_ _ | with_reducible refine Kept.alloc ?_ _ | (with_reducible refine Kept.setCell ?_ (by first | exact Nat.le_refl _ | omega | (simp; done) | (simp; omega)) _) | (with_reducible refine Kept.trans ?_ (by with_reducible assumption))))⟩
          · clear q'
            have V : (x3 == z3) = false := by simpa using v
            go_enter Tryd.func4, Tryd.ntmps4
            go_wp2_with fail
            (go_at_call 13; refine (Civ_awake _ (KT.out _ (by repeat (first | with_reducible exact Kept.refl _ | with_reducible assumption | with_reducible refine Kept.drew ?_ | with_reducible refine Kept.drewN ?_ _ | with_reducible refine Kept.alloc ?_ _ | (with_reducible refine Kept.setCell ?_ (by first | exact Nat.le_refl _ | omega | (simp; done) | (simp; omega)) _) | (with_reducible refine Kept.trans ?_ (by with_reducible assumption)))))).mono ?_; rintro e w1 ⟨rfl, hk1⟩)
            have hB1_1 := hk1
            obtain ⟨hc1_1, hf1_1⟩ := kept_cells hB1_1
            have hz1_0_1 : w.heap.size < w1.heap.size := by have := hB1_1.size; simp at this; omega
            have hz1_1_1 : w.heap.size + 1 < w1.heap.size := by have := hB1_1.size; simp at this; omega
            go_wp2_with fail
            (go_at_call 17; refine (Convert_all _ _ _ _ _ _ _ _ _ _ (KT.out _ (by repeat (first | with_reducible exact Kept.refl _ | with_reducible assumption | with_reducible refine Kept.drew ?_ | with_reducible refine Kept.drewN ?_ _ | with_reducible refine Kept.alloc ?_ _ | (with_reducible refine Kept.setCell ?_ (by first | exact Nat.le_refl _ | omega | (simp; done) | (simp; omega)) _) | (with_reducible refine Kept.trans ?_ (by with_reducible assumption))))) HX.out).mono ?_; rintro e w2 ⟨rfl, hk2⟩)
            have hB1_2 := Kept.trans hB1_1 hk2
            obtain ⟨hc1_2, hf1_2⟩ := kept_cells hB1_2
            have hz1_0_2 : w.heap.size < w2.heap.size := by have := hB1_2.size; simp at this; omega
            have hz1_1_2 : w.heap.size + 1 < w2.heap.size := by have := hB1_2.size; simp at this; omega
            go_wp2_with fail
            (go_at_call 17; refine (Convert_all _ _ _ _ _ _ _ _ _ _ (KT.out _ (by repeat (first | with_reducible exact Kept.refl _ | with_reducible assumption | with_reducible refine Kept.drew ?_ | with_reducible refine Kept.drewN ?_ _ | with_reducible refine Kept.alloc ?_ _ | (with_reducible refine Kept.setCell ?_ (by first | exact Nat.le_refl _ | omega | (simp; done) | (simp; omega)) _) | (with_reducible refine Kept.trans ?_ (by with_reducible assumption))))) HZ.out).mono ?_; rintro e w3 ⟨rfl, hk3⟩)
            have hB1_3 := Kept.trans (Kept.alloc hB1_2 _) hk3
            have hB3_3 := hk3
            obtain ⟨hc1_3, hf1_3⟩ := kept_cells hB1_3
            have hz1_0_3 : w.heap.size < w3.heap.size := by have := hB1_3.size; simp at this; omega
            have hz1_1_3 : w.heap.size + 1 < w3.heap.size := by have := hB1_3.size; simp at this; omega
            obtain ⟨hc3_3, hf3_3⟩ := kept_cells hB3_3
            have hz3_0_3 : w2.heap.size < w3.heap.size := by have := hB3_3.size; simp at this; omega
            go_wp2_with fail
            go_region_held3 (fun w' => Kept (w3.alloc (.cells #[.int .i64 x1, .int .i64 x2, .int .i64 z3] 23)) w' ∧ (∀ b o, b < (w3.alloc (.cells #[.int .i64 x1, .int .i64 x2, .int .i64 z3] 23)).heap.size → w'.cell? ⟨b, o, none⟩ = (w3.alloc (.cells #[.int .i64 x1, .int .i64 x2, .int .i64 z3] 23)).cell? ⟨b, o, none⟩)) (first | exact held_of (Kept.drew (Kept.refl _)) | exact held_of (Kept.trans (And.left (by assumption)) (by assumption))) (first | (go_at_call 18; (with_reducible refine (KL1.out _).mono ?_); rintro e w1 ⟨rfl, hk1⟩) | (go_at_call 18; (with_reducible refine (KL2.out _).mono ?_); rintro e w1 ⟨rfl, hk1⟩))
            go_wp2
            go_ret
            exact ⟨rfl, (by repeat (first | with_reducible exact Kept.refl _ | with_reducible assumption | with_reducible refine Kept.drew ?_ | with_reducible refine Kept.drewN ?_ _ | with_reducible refine Kept.alloc ?_ _ | (with_reducible refine Kept.setCell ?_ (by first | exact Nat.le_refl _ | omega | (simp; done) | (simp; omega)) _) | (with_reducible refine Kept.trans ?_ (by with_reducible assumption))))⟩
    · clear hcx hcz
      go_enter Tryd.func4, Tryd.ntmps4
      go_wp2_with fail
      (go_at_call 13; refine (Civ_awake _ (KT.out _ (by repeat (first | with_reducible exact Kept.refl _ | with_reducible assumption | with_reducible refine Kept.drew ?_ | with_reducible refine Kept.drewN ?_ _ | with_reducible refine Kept.alloc ?_ _ | (with_reducible refine Kept.setCell ?_ (by first | exact Nat.le_refl _ | omega | (simp; done) | (simp; omega)) _) | (with_reducible refine Kept.trans ?_ (by with_reducible assumption)))))).mono ?_; rintro e w1 ⟨rfl, hk1⟩)
      have hB1_1 := hk1
      obtain ⟨hc1_1, hf1_1⟩ := kept_cells hB1_1
      have hz1_0_1 : w.heap.size < w1.heap.size := by have := hB1_1.size; simp at this; omega
      have hz1_1_1 : w.heap.size + 1 < w1.heap.size := by have := hB1_1.size; simp at this; omega
      go_wp2_with fail
      (go_at_call 17; refine (Convert_all _ _ _ _ _ _ _ _ _ _ (KT.out _ (by repeat (first | with_reducible exact Kept.refl _ | with_reducible assumption | with_reducible refine Kept.drew ?_ | with_reducible refine Kept.drewN ?_ _ | with_reducible refine Kept.alloc ?_ _ | (with_reducible refine Kept.setCell ?_ (by first | exact Nat.le_refl _ | omega | (simp; done) | (simp; omega)) _) | (with_reducible refine Kept.trans ?_ (by with_reducible assumption))))) HX.out).mono ?_; rintro e w2 ⟨rfl, hk2⟩)
      have hB1_2 := Kept.trans hB1_1 hk2
      obtain ⟨hc1_2, hf1_2⟩ := kept_cells hB1_2
      have hz1_0_2 : w.heap.size < w2.heap.size := by have := hB1_2.size; simp at this; omega
      have hz1_1_2 : w.heap.size + 1 < w2.heap.size := by have := hB1_2.size; simp at this; omega
      go_wp2_with fail
      (go_at_call 17; refine (Convert_all _ _ _ _ _ _ _ _ _ _ (KT.out _ (by repeat (first | with_reducible exact Kept.refl _ | with_reducible assumption | with_reducible refine Kept.drew ?_ | with_reducible refine Kept.drewN ?_ _ | with_reducible refine Kept.alloc ?_ _ | (with_reducible refine Kept.setCell ?_ (by first | exact Nat.le_refl _ | omega | (simp; done) | (simp; omega)) _) | (with_reducible refine Kept.trans ?_ (by with_reducible assumption))))) HZ.out).mono ?_; rintro e w3 ⟨rfl, hk3⟩)
      have hB1_3 := Kept.trans (Kept.alloc hB1_2 _) hk3
      have hB3_3 := hk3
      obtain ⟨hc1_3, hf1_3⟩ := kept_cells hB1_3
      have hz1_0_3 : w.heap.size < w3.heap.size := by have := hB1_3.size; simp at this; omega
      have hz1_1_3 : w.heap.size + 1 < w3.heap.size := by have := hB1_3.size; simp at this; omega
      obtain ⟨hc3_3, hf3_3⟩ := kept_cells hB3_3
      have hz3_0_3 : w2.heap.size < w3.heap.size := by have := hB3_3.size; simp at this; omega
      go_wp2
      go_ret
      exact ⟨rfl, (by repeat (first | with_reducible exact Kept.refl _ | with_reducible assumption | with_reducible refine Kept.drew ?_ | with_reducible refine Kept.drewN ?_ _ | with_reducible refine Kept.alloc ?_ _ | (with_reducible refine Kept.setCell ?_ (by first | exact Nat.le_refl _ | omega | (simp; done) | (simp; omega)) _) | (with_reducible refine Kept.trans ?_ (by with_reducible assumption))))⟩
  · clear hcx hcz
    go_enter Tryd.func4, Tryd.ntmps4
    go_wp2_with fail
    (go_at_call 13; refine (Civ_awake _ (KT.out _ (by repeat (first | with_reducible exact Kept.refl _ | with_reducible assumption | with_reducible refine Kept.drew ?_ | with_reducible refine Kept.drewN ?_ _ | with_reducible refine Kept.alloc ?_ _ | (with_reducible refine Kept.setCell ?_ (by first | exact Nat.le_refl _ | omega | (simp; done) | (simp; omega)) _) | (with_reducible refine Kept.trans ?_ (by with_reducible assumption)))))).mono ?_; rintro e w1 ⟨rfl, hk1⟩)
    have hB1_1 := hk1
    obtain ⟨hc1_1, hf1_1⟩ := kept_cells hB1_1
    have hz1_0_1 : w.heap.size < w1.heap.size := by have := hB1_1.size; simp at this; omega
    have hz1_1_1 : w.heap.size + 1 < w1.heap.size := by have := hB1_1.size; simp at this; omega
    go_wp2_with fail
    (go_at_call 17; refine (Convert_all _ _ _ _ _ _ _ _ _ _ (KT.out _ (by repeat (first | with_reducible exact Kept.refl _ | with_reducible assumption | with_reducible refine Kept.drew ?_ | with_reducible refine Kept.drewN ?_ _ | with_reducible refine Kept.alloc ?_ _ | (with_reducible refine Kept.setCell ?_ (by first | exact Nat.le_refl _ | omega | (simp; done) | (simp; omega)) _) | (with_reducible refine Kept.trans ?_ (by with_reducible assumption))))) HX.out).mono ?_; rintro e w2 ⟨rfl, hk2⟩)
    have hB1_2 := Kept.trans hB1_1 hk2
    obtain ⟨hc1_2, hf1_2⟩ := kept_cells hB1_2
    have hz1_0_2 : w.heap.size < w2.heap.size := by have := hB1_2.size; simp at this; omega
    have hz1_1_2 : w.heap.size + 1 < w2.heap.size := by have := hB1_2.size; simp at this; omega
    go_wp2_with fail
    (go_at_call 17; refine (Convert_all _ _ _ _ _ _ _ _ _ _ (KT.out _ (by repeat (first | with_reducible exact Kept.refl _ | with_reducible assumption | with_reducible refine Kept.drew ?_ | with_reducible refine Kept.drewN ?_ _ | with_reducible refine Kept.alloc ?_ _ | (with_reducible refine Kept.setCell ?_ (by first | exact Nat.le_refl _ | omega | (simp; done) | (simp; omega)) _) | (with_reducible refine Kept.trans ?_ (by with_reducible assumption))))) HZ.out).mono ?_; rintro e w3 ⟨rfl, hk3⟩)
    have hB1_3 := Kept.trans (Kept.alloc hB1_2 _) hk3
    have hB3_3 := hk3
    obtain ⟨hc1_3, hf1_3⟩ := kept_cells hB1_3
    have hz1_0_3 : w.heap.size < w3.heap.size := by have := hB1_3.size; simp at this; omega
    have hz1_1_3 : w.heap.size + 1 < w3.heap.size := by have := hB1_3.size; simp at this; omega
    obtain ⟨hc3_3, hf3_3⟩ := kept_cells hB3_3
    have hz3_0_3 : w2.heap.size < w3.heap.size := by have := hB3_3.size; simp at this; omega
    go_wp2
    go_ret
    exact ⟨rfl, (by repeat (first | with_reducible exact Kept.refl _ | with_reducible assumption | with_reducible refine Kept.drew ?_ | with_reducible refine Kept.drewN ?_ _ | with_reducible refine Kept.alloc ?_ _ | (with_reducible refine Kept.setCell ?_ (by first | exact Nat.le_refl _ | omega | (simp; done) | (simp; omega)) _) | (with_reducible refine Kept.trans ?_ (by with_reducible assumption))))⟩
theorem CivilOrder_walk (c y m d y' m' d' : Int) (_bc : 0 ≤ c ∧ c ≤ 255) (_by : -9223372036854775808 ≤ y ∧ y ≤ 9223372036854775807) (_bm : -9223372036854775808 ≤ m ∧ m ≤ 9223372036854775807) (_bd : -9223372036854775808 ≤ d ∧ d ≤ 9223372036854775807) (_b1 : -9223372036854775808 ≤ y' ∧ y' ≤ 9223372036854775807) (_b2 : -9223372036854775808 ≤ m' ∧ m' ≤ 9223372036854775807) (_b3 : -9223372036854775808 ≤ d' ∧ d' ≤ 9223372036854775807) (w : World) (hT : Tab w) :
    Calls Tryd.prog 4 #[.int .u8 c, .agg #[.int .i64 y, .int .i64 m, .int .i64 d], .agg #[.int .i64 y', .int .i64 m', .int .i64 d']] w fun e w' => e = .returned (.bool true) ∧ Kept w w' := by
  rcases (show c % 2 = 0 ∨ c % 2 = 1 by omega) with hc | hc
  · exact CivilOrder_walk0 c y m d y' m' d' _bc.1 _bc.2 hc w hT
  · exact CivilOrder_walk1 c y m d y' m' d' _bc.1 _bc.2 hc w hT

set_option maxRecDepth 100000 in
theorem CivilOrder_contract (H : Type) (enc : TypeId × Value → H) (W : World) (base : Nat) (args : Array Value) (ds gs : List (DataW H)) (before : List MemPlace)
    (hval : ∀ (j : Nat) t v, Tryd.f4.params[j]? = some t → args[j]? = some v → Value.okWide Tryd.prog W .any base t v)
    (hW : DataW.Whole enc Tryd.prog Tryd.f4.params.toList Rows.civilOrderSpec.vars false W args.toList ds gs before) (hL : laidMetH Tryd.prog Rows.civilOrderRow.laid W) :
    Calls Tryd.prog 4 args W fun e W' => ∃ v, e = .returned v ∧ Rows.civilOrderSpec.post enc Tryd.prog Tryd.f4 false true false false W args v W' := by
  have hW' := hW
  obtain ⟨p, q, hA0, hV, rfl, hfz, hnd⟩ := hW
  have hA : DataW.TrodAll enc Tryd.prog W 0 (fun _ => true) true Tryd.f4.params.toList args.toList ds p := hA0
  rw [Tryd.params4] at hA hval
  obtain ⟨v0, vs0, d0, ds0, p0, q0, hargs, rfl, rfl, h0, r0⟩ := trodAll_cons hA
  obtain ⟨v1, vs1, d1, ds1, p1, q1, rfl, rfl, rfl, h1, r1⟩ := trodAll_cons r0
  obtain ⟨v2, vs2, d2, ds2, p2, q2, rfl, rfl, rfl, h2, r2⟩ := trodAll_cons r1
  obtain ⟨rfl, rfl, rfl⟩ := trodAll_nil r2
  obtain rfl : args = #[v0, v1, v2] := by cases args; simp_all
  obtain ⟨rfl, rfl⟩ := trodVars_none hV
  obtain ⟨a0, rfl, rfl, rfl, w0⟩ := open_int Tryd.underlying5 (hval 0 5 v0 rfl rfl) h0
  obtain ⟨c10, c11, c12, y10, y11, y12, m1, rfl, rfl, rfl, hy10, hy11, hy12⟩ := open_agg3 Tryd.underlying23 (by kernel_rfl) cells_Date (hval 1 23 v1 rfl rfl) h1
  obtain ⟨a10, e10, rfl, w10⟩ := DataW.trod_int Tryd.underlying3 hy10
  obtain ⟨a11, e11, rfl, w11⟩ := DataW.trod_int Tryd.underlying3 hy11
  obtain ⟨a12, e12, rfl, w12⟩ := DataW.trod_int Tryd.underlying3 hy12
  simp at e10 e11 e12
  subst e10 e11 e12
  obtain ⟨c20, c21, c22, y20, y21, y22, m2, rfl, rfl, rfl, hy20, hy21, hy22⟩ := open_agg3 Tryd.underlying23 (by kernel_rfl) cells_Date (hval 2 23 v2 rfl rfl) h2
  obtain ⟨a20, e20, rfl, w20⟩ := DataW.trod_int Tryd.underlying3 hy20
  obtain ⟨a21, e21, rfl, w21⟩ := DataW.trod_int Tryd.underlying3 hy21
  obtain ⟨a22, e22, rfl, w22⟩ := DataW.trod_int Tryd.underlying3 hy22
  simp at e20 e21 e22
  subst e20 e21 e22
  clear hA0
  simp only [List.append_nil] at hW'
  refine (CivilOrder_walk a0 a10 a11 a12 a20 a21 a22 (wf_bounds8 w0) (wf_bounds w10) (wf_bounds w11) (wf_bounds w12) (wf_bounds w20) (wf_bounds w21) (wf_bounds w22) W (tab_of hL)).mono fun e W' ⟨he, hg⟩ => ?_
  subst he
  exact ⟨_, rfl, post_of_kept (pa := []) (pv := []) hW' (fun _ _ _ => (trodAll_cons_mk (shut_bool Tryd.underlying4 _) trodAll_mk0)) (fun sp _ => (trodAll_cons_mk (shut_int Tryd.underlying5 w0) (trodAll_cons_mk (shut_agg3 (y0 := (.lit (.int .i64 a10), [])) (y1 := (.lit (.int .i64 a11), [])) (y2 := (.lit (.int .i64 a12), [])) Tryd.underlying23 (by kernel_rfl) cells_Date ⟨1, by simp [DataW.trod, Tryd.underlying3, w10]⟩ ⟨1, by simp [DataW.trod, Tryd.underlying3, w11]⟩ ⟨1, by simp [DataW.trod, Tryd.underlying3, w12]⟩) (trodAll_cons_mk (shut_agg3 (y0 := (.lit (.int .i64 a20), [])) (y1 := (.lit (.int .i64 a21), [])) (y2 := (.lit (.int .i64 a22), [])) Tryd.underlying23 (by kernel_rfl) cells_Date ⟨1, by simp [DataW.trod, Tryd.underlying3, w20]⟩ ⟨1, by simp [DataW.trod, Tryd.underlying3, w21]⟩ ⟨1, by simp [DataW.trod, Tryd.underlying3, w22]⟩) trodAll_mk0)))) (fun _ _ => rfl) rfl
    hg (ok_one (by kernel_rfl) rfl (okWide_bool_mk Tryd.underlying4 _))⟩
theorem CivilOrder_laid (os : Os) : laidMet Tryd.prog Rows.civilOrderRow.laid ((laidWorld os).forCall (fun _ _ => 0) ⟨#[], #[.int .u8 0, .agg #[.int .i64 0, .int .i64 0, .int .i64 0], .agg #[.int .i64 0, .int .i64 0, .int .i64 0]], []⟩).memory :=
  laidMet_of_run' 8 (by kernel_rfl) (by kernel_rfl)
theorem CivilOrder_reads (os : Os) {H : Type} (enc : TypeId × Value → H) : ∃ places, DataW.whole enc Tryd.prog ((laidWorld os).forCall (fun _ _ => 0) ⟨#[], #[.int .u8 0, .agg #[.int .i64 0, .int .i64 0, .int .i64 0], .agg #[.int .i64 0, .int .i64 0, .int .i64 0]], []⟩).memory Tryd.f4.params.toList Rows.civilOrderSpec.vars false (#[.int .u8 0, .agg #[.int .i64 0, .int .i64 0, .int .i64 0], .agg #[.int .i64 0, .int .i64 0, .int .i64 0]] : Array Value).toList 8 = some ([.lit (.int .u8 0), .agg [.lit (.int .i64 0), .lit (.int .i64 0), .lit (.int .i64 0)], .agg [.lit (.int .i64 0), .lit (.int .i64 0), .lit (.int .i64 0)]], [], places) :=
  ⟨[], by kernel_rfl⟩
set_option maxRecDepth 100000 in
theorem CivilOrder_lifted (os : Os) (started : os.Started) (H : Type) (enc : TypeId × Value → H) (F : Stop.Interp) :
    ReturnsInHanded {} Tryd.checked os 4 .any ((OpenSpec.ofChange Rows.civilOrderSpec).preRow enc Tryd.prog Tryd.f4 Rows.civilOrderRow.domain false Rows.civilOrderRow.laid) (((OpenSpec.ofChange Rows.civilOrderSpec).at F).post enc Tryd.prog Tryd.f4 false true false false) := by
  obtain ⟨places, hx⟩ := CivilOrder_reads os enc
  refine returnsInHanded_of_row (C := Tryd.checked) (s := OpenSpec.ofChange Rows.civilOrderSpec) own_knob started (by kernel_rfl) Tryd.func4
    (witness_row_at (enc := enc) (C := Tryd.checked) false (laidWorld os) #[.int .u8 0, .agg #[.int .i64 0, .int .i64 0, .int .i64 0], .agg #[.int .i64 0, .int .i64 0, .int .i64 0]] rfl (by kernel_rfl) (by kernel_rfl) (by kernel_rfl)
      (OpenSpec.preRow_of_cond 8 hx (by kernel_rfl) (fun k hk => by cases hk) (by kernel_rfl) (CivilOrder_laid os))) ?_
  intro W base args ds gs before hval hW _ _ _ hL _ _
  exact CivilOrder_contract H enc W base args ds gs before hval hW hL
theorem CivilOrder_said : Rows.CivilOrderSaid :=
  OpenClaim.holds_of_cond 4 Tryd.f4 rfl rfl rfl rfl rfl rfl rfl ⟨rfl, rfl, rfl, rfl, rfl⟩ rfl rfl rfl rfl rfl (by kernel_rfl) Tryd.func4 (by kernel_rfl)
    (of_decide_eq_true (by kernel_rfl)) (by unfold Func.isWrapper; first | (rw [if_pos (by decide +kernel)]; kernel_rfl) | (rw [if_neg (by decide +kernel)]; exact ⟨rfl, rfl⟩))
    (fun os started H enc _ F => by rw [OpenClaim.pre_eq_preRow]; exact CivilOrder_lifted os started H enc F)
theorem CivilOrder_plain (f : FuncId) (fn : Func) (hf : Tryd.pinned.checked.prog.funcNamed "computus/computuslaw05.CivilOrder" = some f) (hfn : Tryd.pinned.checked.prog.funcs[f]? = some fn) :
    false = Tryd.pinned.checked.prog.looks [] ∧ ∀ (j : Nat) t, fn.params[j]? = some t → Tryd.pinned.checked.prog.wantsStandIn t = false := by
  obtain rfl : f = 4 := Option.some.inj ((show Tryd.prog.funcNamed "computus/computuslaw05.CivilOrder" = some 4 by kernel_rfl).symm.trans hf) |>.symm
  obtain rfl : fn = Tryd.f4 := (Option.some.inj (Tryd.func4.symm.trans hfn)).symm
  refine ⟨by kernel_rfl, fun j t ht => ?_⟩
  rw [Tryd.params4] at ht
  have hm : t ∈ [5, 23, 23] := by simpa using Array.mem_of_getElem? ht
  have hall : ([5, 23, 23].all fun u => !Tryd.prog.wantsStandIn u) = true := by kernel_rfl
  exact (show Tryd.prog.wantsStandIn t = false by simpa using List.all_eq_true.1 hall t hm)
theorem CivilOrder_proved : Rows.CivilOrderCardSaid :=
  Claim7.holds_tied_plain_at .later [] _ _ _ _ CivilOrder_said (fun _ h => by cases h) (by kernel_rfl) (fun _ h => by cases h) civilOrder_row_tie rfl ⟨rfl, rfl⟩ (by kernel_rfl) rfl CivilOrder_plain (by kernel_rfl)
#print axioms CivilOrder_proved
end Go.Proofs.YtcfgiboknkkheaaDoor

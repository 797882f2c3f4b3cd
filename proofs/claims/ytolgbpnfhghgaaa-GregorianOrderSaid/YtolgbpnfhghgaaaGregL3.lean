/- 'Rows.GregorianOrderSaid': for every two dates, if both are valid they are ordered like their numbers. No condition. -/
import Derived.Test.YtolgbpnfhghgaaaGregAw
set_option linter.unusedSimpArgs false
set_option linter.unusedVariables false
set_option linter.unusedSectionVars false
namespace Go.Proofs.Ytolgbpnfhghgaaa
open Go.ChangeShapes Go.WideShapes Go.ChangeAt Go.RowKit Go.Joins
set_option maxHeartbeats 1000000

theorem beq_false_of_lt {a b : Int} (h : a < b) : (a == b) = false := by simp; omega
theorem beq_false_of_gt {a b : Int} (h : b < a) : (a == b) = false := by simp; omega
theorem decide_true_of_lt {a b : Int} (h : a < b) : decide (a < b) = true := by simpa using h
theorem decide_false_of_gt {a b : Int} (h : b < a) : decide (a < b) = false := by simp; omega
theorem GregorianOrder_walk (ay am ad : Int) (b1 b2 b3 : Int) (_bay : -9223372036854775808 ≤ ay ∧ ay ≤ 9223372036854775807) (_bam : -9223372036854775808 ≤ am ∧ am ≤ 9223372036854775807) (_bad : -9223372036854775808 ≤ ad ∧ ad ≤ 9223372036854775807) (_bby : -9223372036854775808 ≤ b1 ∧ b1 ≤ 9223372036854775807) (_bbm : -9223372036854775808 ≤ b2 ∧ b2 ≤ 9223372036854775807) (_bbd : -9223372036854775808 ≤ b3 ∧ b3 ≤ 9223372036854775807) (w : World) :
    Calls Try.prog 5 #[.agg #[.int .i64 ay, .int .i64 am, .int .i64 ad], .agg #[.int .i64 b1, .int .i64 b2, .int .i64 b3]] w fun e w' => e = .returned (.bool true) ∧ Kept w w' := by
  clear _bay _bam _bad _bby _bbm _bbd
  by_cases ha : OkD 2 ay am ad
  · by_cases hb : OkD 2 b1 b2 b3
    · have hlt := num_lt 2 _ _ _ _ _ _ ha hb
      have hgt := num_lt 2 _ _ _ _ _ _ hb ha
      have H7 : ay < b1 ∨ (ay = b1 ∧ am < b2) ∨ (ay = b1 ∧ am = b2 ∧ ad < b3) ∨ (ay = b1 ∧ am = b2 ∧ ad = b3) ∨ b1 < ay ∨ (ay = b1 ∧ b2 < am) ∨ (ay = b1 ∧ am = b2 ∧ b3 < ad) := by omega
      rcases H7 with c | ⟨rfl, c⟩ | ⟨rfl, rfl, c⟩ | ⟨rfl, rfl, rfl⟩ | c | ⟨rfl, c⟩ | ⟨rfl, rfl, c⟩
      · have h1 := hlt (by unfold Before; omega)
        have h2 := beq_false_of_lt h1
        have h3 := decide_true_of_lt h1
        clear hlt hgt
        go_enter Try.func5, Try.ntmps5
        go_wp2_with fail
        (go_at_call 9; refine (Greg_awake _).mono ?_; rintro e w1 ⟨rfl, hk1⟩)
        have hB1_1 := hk1
        obtain ⟨hc1_1, hf1_1⟩ := kept_cells hB1_1
        have hz1_0_1 : w.heap.size < w1.heap.size := by have := hB1_1.size; simp at this; omega
        have hz1_1_1 : w.heap.size + 1 < w1.heap.size := by have := hB1_1.size; simp at this; omega
        go_wp2_with fail
        (go_at_call 16; refine (rValid_yes _ _ _ _ ha).mono ?_; rintro e w2 ⟨rfl, hk2⟩)
        have hB1_2 := Kept.trans hB1_1 hk2
        obtain ⟨hc1_2, hf1_2⟩ := kept_cells hB1_2
        have hz1_0_2 : w.heap.size < w2.heap.size := by have := hB1_2.size; simp at this; omega
        have hz1_1_2 : w.heap.size + 1 < w2.heap.size := by have := hB1_2.size; simp at this; omega
        go_wp2_with fail
        (go_at_call 16; refine (rValid_yes _ _ _ _ hb).mono ?_; rintro e w3 ⟨rfl, hk3⟩)
        have hB1_3 := Kept.trans hB1_2 hk3
        obtain ⟨hc1_3, hf1_3⟩ := kept_cells hB1_3
        have hz1_0_3 : w.heap.size < w3.heap.size := by have := hB1_3.size; simp at this; omega
        have hz1_1_3 : w.heap.size + 1 < w3.heap.size := by have := hB1_3.size; simp at this; omega
        go_wp2_with fail
        (go_at_call 10; refine (ToDay_ok _ _ _ _ ha).mono ?_; rintro e w4 ⟨rfl, hk4⟩)
        have hB1_4 := Kept.trans hB1_3 hk4
        obtain ⟨hc1_4, hf1_4⟩ := kept_cells hB1_4
        have hz1_0_4 : w.heap.size < w4.heap.size := by have := hB1_4.size; simp at this; omega
        have hz1_1_4 : w.heap.size + 1 < w4.heap.size := by have := hB1_4.size; simp at this; omega
        go_wp2_with fail
        (go_at_call 10; refine (ToDay_ok _ _ _ _ hb).mono ?_; rintro e w5 ⟨rfl, hk5⟩)
        have hB1_5 := Kept.trans hB1_4 hk5
        obtain ⟨hc1_5, hf1_5⟩ := kept_cells hB1_5
        have hz1_0_5 : w.heap.size < w5.heap.size := by have := hB1_5.size; simp at this; omega
        have hz1_1_5 : w.heap.size + 1 < w5.heap.size := by have := hB1_5.size; simp at this; omega
        go_wp2_with fail
        (go_at_call 17; refine (Less_yes _ _ _ _ _ _ _ (by unfold Before; omega)).mono ?_; rintro e w6 ⟨rfl, hk6⟩)
        have hB1_6 := Kept.trans hB1_5 hk6
        obtain ⟨hc1_6, hf1_6⟩ := kept_cells hB1_6
        have hz1_0_6 : w.heap.size < w6.heap.size := by have := hB1_6.size; simp at this; omega
        have hz1_1_6 : w.heap.size + 1 < w6.heap.size := by have := hB1_6.size; simp at this; omega
        go_wp2
        go_ret
        exact ⟨rfl, (by repeat (first | with_reducible exact Kept.refl _ | with_reducible assumption | with_reducible refine Kept.drew ?_ | with_reducible refine Kept.drewN ?_ _ | with_reducible refine Kept.alloc ?_ _ | (with_reducible refine Kept.setCell ?_ (by first | exact Nat.le_refl _ | omega | (simp; done) | (simp; omega)) _) | (with_reducible refine Kept.trans ?_ (by with_reducible assumption))))⟩
      · have h1 := hlt (by unfold Before; omega)
        have h2 := beq_false_of_lt h1
        have h3 := decide_true_of_lt h1
        clear hlt hgt
        go_enter Try.func5, Try.ntmps5
        go_wp2_with fail
        (go_at_call 9; refine (Greg_awake _).mono ?_; rintro e w1 ⟨rfl, hk1⟩)
        have hB1_1 := hk1
        obtain ⟨hc1_1, hf1_1⟩ := kept_cells hB1_1
        have hz1_0_1 : w.heap.size < w1.heap.size := by have := hB1_1.size; simp at this; omega
        have hz1_1_1 : w.heap.size + 1 < w1.heap.size := by have := hB1_1.size; simp at this; omega
        go_wp2_with fail
        (go_at_call 16; refine (rValid_yes _ _ _ _ ha).mono ?_; rintro e w2 ⟨rfl, hk2⟩)
        have hB1_2 := Kept.trans hB1_1 hk2
        obtain ⟨hc1_2, hf1_2⟩ := kept_cells hB1_2
        have hz1_0_2 : w.heap.size < w2.heap.size := by have := hB1_2.size; simp at this; omega
        have hz1_1_2 : w.heap.size + 1 < w2.heap.size := by have := hB1_2.size; simp at this; omega
        go_wp2_with fail
        (go_at_call 16; refine (rValid_yes _ _ _ _ hb).mono ?_; rintro e w3 ⟨rfl, hk3⟩)
        have hB1_3 := Kept.trans hB1_2 hk3
        obtain ⟨hc1_3, hf1_3⟩ := kept_cells hB1_3
        have hz1_0_3 : w.heap.size < w3.heap.size := by have := hB1_3.size; simp at this; omega
        have hz1_1_3 : w.heap.size + 1 < w3.heap.size := by have := hB1_3.size; simp at this; omega
        go_wp2_with fail
        (go_at_call 10; refine (ToDay_ok _ _ _ _ ha).mono ?_; rintro e w4 ⟨rfl, hk4⟩)
        have hB1_4 := Kept.trans hB1_3 hk4
        obtain ⟨hc1_4, hf1_4⟩ := kept_cells hB1_4
        have hz1_0_4 : w.heap.size < w4.heap.size := by have := hB1_4.size; simp at this; omega
        have hz1_1_4 : w.heap.size + 1 < w4.heap.size := by have := hB1_4.size; simp at this; omega
        go_wp2_with fail
        (go_at_call 10; refine (ToDay_ok _ _ _ _ hb).mono ?_; rintro e w5 ⟨rfl, hk5⟩)
        have hB1_5 := Kept.trans hB1_4 hk5
        obtain ⟨hc1_5, hf1_5⟩ := kept_cells hB1_5
        have hz1_0_5 : w.heap.size < w5.heap.size := by have := hB1_5.size; simp at this; omega
        have hz1_1_5 : w.heap.size + 1 < w5.heap.size := by have := hB1_5.size; simp at this; omega
        go_wp2_with fail
        (go_at_call 17; refine (Less_yes _ _ _ _ _ _ _ (by unfold Before; omega)).mono ?_; rintro e w6 ⟨rfl, hk6⟩)
        have hB1_6 := Kept.trans hB1_5 hk6
        obtain ⟨hc1_6, hf1_6⟩ := kept_cells hB1_6
        have hz1_0_6 : w.heap.size < w6.heap.size := by have := hB1_6.size; simp at this; omega
        have hz1_1_6 : w.heap.size + 1 < w6.heap.size := by have := hB1_6.size; simp at this; omega
        go_wp2
        go_ret
        exact ⟨rfl, (by repeat (first | with_reducible exact Kept.refl _ | with_reducible assumption | with_reducible refine Kept.drew ?_ | with_reducible refine Kept.drewN ?_ _ | with_reducible refine Kept.alloc ?_ _ | (with_reducible refine Kept.setCell ?_ (by first | exact Nat.le_refl _ | omega | (simp; done) | (simp; omega)) _) | (with_reducible refine Kept.trans ?_ (by with_reducible assumption))))⟩
      · have h1 := hlt (by unfold Before; omega)
        have h2 := beq_false_of_lt h1
        have h3 := decide_true_of_lt h1
        clear hlt hgt
        go_enter Try.func5, Try.ntmps5
        go_wp2_with fail
        (go_at_call 9; refine (Greg_awake _).mono ?_; rintro e w1 ⟨rfl, hk1⟩)
        have hB1_1 := hk1
        obtain ⟨hc1_1, hf1_1⟩ := kept_cells hB1_1
        have hz1_0_1 : w.heap.size < w1.heap.size := by have := hB1_1.size; simp at this; omega
        have hz1_1_1 : w.heap.size + 1 < w1.heap.size := by have := hB1_1.size; simp at this; omega
        go_wp2_with fail
        (go_at_call 16; refine (rValid_yes _ _ _ _ ha).mono ?_; rintro e w2 ⟨rfl, hk2⟩)
        have hB1_2 := Kept.trans hB1_1 hk2
        obtain ⟨hc1_2, hf1_2⟩ := kept_cells hB1_2
        have hz1_0_2 : w.heap.size < w2.heap.size := by have := hB1_2.size; simp at this; omega
        have hz1_1_2 : w.heap.size + 1 < w2.heap.size := by have := hB1_2.size; simp at this; omega
        go_wp2_with fail
        (go_at_call 16; refine (rValid_yes _ _ _ _ hb).mono ?_; rintro e w3 ⟨rfl, hk3⟩)
        have hB1_3 := Kept.trans hB1_2 hk3
        obtain ⟨hc1_3, hf1_3⟩ := kept_cells hB1_3
        have hz1_0_3 : w.heap.size < w3.heap.size := by have := hB1_3.size; simp at this; omega
        have hz1_1_3 : w.heap.size + 1 < w3.heap.size := by have := hB1_3.size; simp at this; omega
        go_wp2_with fail
        (go_at_call 10; refine (ToDay_ok _ _ _ _ ha).mono ?_; rintro e w4 ⟨rfl, hk4⟩)
        have hB1_4 := Kept.trans hB1_3 hk4
        obtain ⟨hc1_4, hf1_4⟩ := kept_cells hB1_4
        have hz1_0_4 : w.heap.size < w4.heap.size := by have := hB1_4.size; simp at this; omega
        have hz1_1_4 : w.heap.size + 1 < w4.heap.size := by have := hB1_4.size; simp at this; omega
        go_wp2_with fail
        (go_at_call 10; refine (ToDay_ok _ _ _ _ hb).mono ?_; rintro e w5 ⟨rfl, hk5⟩)
        have hB1_5 := Kept.trans hB1_4 hk5
        obtain ⟨hc1_5, hf1_5⟩ := kept_cells hB1_5
        have hz1_0_5 : w.heap.size < w5.heap.size := by have := hB1_5.size; simp at this; omega
        have hz1_1_5 : w.heap.size + 1 < w5.heap.size := by have := hB1_5.size; simp at this; omega
        go_wp2_with fail
        (go_at_call 17; refine (Less_yes _ _ _ _ _ _ _ (by unfold Before; omega)).mono ?_; rintro e w6 ⟨rfl, hk6⟩)
        have hB1_6 := Kept.trans hB1_5 hk6
        obtain ⟨hc1_6, hf1_6⟩ := kept_cells hB1_6
        have hz1_0_6 : w.heap.size < w6.heap.size := by have := hB1_6.size; simp at this; omega
        have hz1_1_6 : w.heap.size + 1 < w6.heap.size := by have := hB1_6.size; simp at this; omega
        go_wp2
        go_ret
        exact ⟨rfl, (by repeat (first | with_reducible exact Kept.refl _ | with_reducible assumption | with_reducible refine Kept.drew ?_ | with_reducible refine Kept.drewN ?_ _ | with_reducible refine Kept.alloc ?_ _ | (with_reducible refine Kept.setCell ?_ (by first | exact Nat.le_refl _ | omega | (simp; done) | (simp; omega)) _) | (with_reducible refine Kept.trans ?_ (by with_reducible assumption))))⟩
      · clear hlt hgt
        go_enter Try.func5, Try.ntmps5
        go_wp2_with fail
        (go_at_call 9; refine (Greg_awake _).mono ?_; rintro e w1 ⟨rfl, hk1⟩)
        have hB1_1 := hk1
        obtain ⟨hc1_1, hf1_1⟩ := kept_cells hB1_1
        have hz1_0_1 : w.heap.size < w1.heap.size := by have := hB1_1.size; simp at this; omega
        have hz1_1_1 : w.heap.size + 1 < w1.heap.size := by have := hB1_1.size; simp at this; omega
        go_wp2_with fail
        (go_at_call 16; refine (rValid_yes _ _ _ _ ha).mono ?_; rintro e w2 ⟨rfl, hk2⟩)
        have hB1_2 := Kept.trans hB1_1 hk2
        obtain ⟨hc1_2, hf1_2⟩ := kept_cells hB1_2
        have hz1_0_2 : w.heap.size < w2.heap.size := by have := hB1_2.size; simp at this; omega
        have hz1_1_2 : w.heap.size + 1 < w2.heap.size := by have := hB1_2.size; simp at this; omega
        go_wp2_with fail
        (go_at_call 16; refine (rValid_yes _ _ _ _ hb).mono ?_; rintro e w3 ⟨rfl, hk3⟩)
        have hB1_3 := Kept.trans hB1_2 hk3
        obtain ⟨hc1_3, hf1_3⟩ := kept_cells hB1_3
        have hz1_0_3 : w.heap.size < w3.heap.size := by have := hB1_3.size; simp at this; omega
        have hz1_1_3 : w.heap.size + 1 < w3.heap.size := by have := hB1_3.size; simp at this; omega
        go_wp2_with fail
        (go_at_call 10; refine (ToDay_ok _ _ _ _ ha).mono ?_; rintro e w4 ⟨rfl, hk4⟩)
        have hB1_4 := Kept.trans hB1_3 hk4
        obtain ⟨hc1_4, hf1_4⟩ := kept_cells hB1_4
        have hz1_0_4 : w.heap.size < w4.heap.size := by have := hB1_4.size; simp at this; omega
        have hz1_1_4 : w.heap.size + 1 < w4.heap.size := by have := hB1_4.size; simp at this; omega
        go_wp2_with fail
        (go_at_call 10; refine (ToDay_ok _ _ _ _ hb).mono ?_; rintro e w5 ⟨rfl, hk5⟩)
        have hB1_5 := Kept.trans hB1_4 hk5
        obtain ⟨hc1_5, hf1_5⟩ := kept_cells hB1_5
        have hz1_0_5 : w.heap.size < w5.heap.size := by have := hB1_5.size; simp at this; omega
        have hz1_1_5 : w.heap.size + 1 < w5.heap.size := by have := hB1_5.size; simp at this; omega
        go_wp2_with fail
        (go_at_call 17; refine (Less_no _ _ _ _ _ _ _ (by unfold Before; omega)).mono ?_; rintro e w6 ⟨rfl, hk6⟩)
        have hB1_6 := Kept.trans hB1_5 hk6
        obtain ⟨hc1_6, hf1_6⟩ := kept_cells hB1_6
        have hz1_0_6 : w.heap.size < w6.heap.size := by have := hB1_6.size; simp at this; omega
        have hz1_1_6 : w.heap.size + 1 < w6.heap.size := by have := hB1_6.size; simp at this; omega
        go_wp2
        go_ret
        exact ⟨rfl, (by repeat (first | with_reducible exact Kept.refl _ | with_reducible assumption | with_reducible refine Kept.drew ?_ | with_reducible refine Kept.drewN ?_ _ | with_reducible refine Kept.alloc ?_ _ | (with_reducible refine Kept.setCell ?_ (by first | exact Nat.le_refl _ | omega | (simp; done) | (simp; omega)) _) | (with_reducible refine Kept.trans ?_ (by with_reducible assumption))))⟩
      · have h1 := hgt (by unfold Before; omega)
        have h2 := beq_false_of_gt h1
        have h3 := decide_false_of_gt h1
        clear hlt hgt
        go_enter Try.func5, Try.ntmps5
        go_wp2_with fail
        (go_at_call 9; refine (Greg_awake _).mono ?_; rintro e w1 ⟨rfl, hk1⟩)
        have hB1_1 := hk1
        obtain ⟨hc1_1, hf1_1⟩ := kept_cells hB1_1
        have hz1_0_1 : w.heap.size < w1.heap.size := by have := hB1_1.size; simp at this; omega
        have hz1_1_1 : w.heap.size + 1 < w1.heap.size := by have := hB1_1.size; simp at this; omega
        go_wp2_with fail
        (go_at_call 16; refine (rValid_yes _ _ _ _ ha).mono ?_; rintro e w2 ⟨rfl, hk2⟩)
        have hB1_2 := Kept.trans hB1_1 hk2
        obtain ⟨hc1_2, hf1_2⟩ := kept_cells hB1_2
        have hz1_0_2 : w.heap.size < w2.heap.size := by have := hB1_2.size; simp at this; omega
        have hz1_1_2 : w.heap.size + 1 < w2.heap.size := by have := hB1_2.size; simp at this; omega
        go_wp2_with fail
        (go_at_call 16; refine (rValid_yes _ _ _ _ hb).mono ?_; rintro e w3 ⟨rfl, hk3⟩)
        have hB1_3 := Kept.trans hB1_2 hk3
        obtain ⟨hc1_3, hf1_3⟩ := kept_cells hB1_3
        have hz1_0_3 : w.heap.size < w3.heap.size := by have := hB1_3.size; simp at this; omega
        have hz1_1_3 : w.heap.size + 1 < w3.heap.size := by have := hB1_3.size; simp at this; omega
        go_wp2_with fail
        (go_at_call 10; refine (ToDay_ok _ _ _ _ ha).mono ?_; rintro e w4 ⟨rfl, hk4⟩)
        have hB1_4 := Kept.trans hB1_3 hk4
        obtain ⟨hc1_4, hf1_4⟩ := kept_cells hB1_4
        have hz1_0_4 : w.heap.size < w4.heap.size := by have := hB1_4.size; simp at this; omega
        have hz1_1_4 : w.heap.size + 1 < w4.heap.size := by have := hB1_4.size; simp at this; omega
        go_wp2_with fail
        (go_at_call 10; refine (ToDay_ok _ _ _ _ hb).mono ?_; rintro e w5 ⟨rfl, hk5⟩)
        have hB1_5 := Kept.trans hB1_4 hk5
        obtain ⟨hc1_5, hf1_5⟩ := kept_cells hB1_5
        have hz1_0_5 : w.heap.size < w5.heap.size := by have := hB1_5.size; simp at this; omega
        have hz1_1_5 : w.heap.size + 1 < w5.heap.size := by have := hB1_5.size; simp at this; omega
        go_wp2_with fail
        (go_at_call 17; refine (Less_no _ _ _ _ _ _ _ (by unfold Before; omega)).mono ?_; rintro e w6 ⟨rfl, hk6⟩)
        have hB1_6 := Kept.trans hB1_5 hk6
        obtain ⟨hc1_6, hf1_6⟩ := kept_cells hB1_6
        have hz1_0_6 : w.heap.size < w6.heap.size := by have := hB1_6.size; simp at this; omega
        have hz1_1_6 : w.heap.size + 1 < w6.heap.size := by have := hB1_6.size; simp at this; omega
        go_wp2
        go_ret
        exact ⟨rfl, (by repeat (first | with_reducible exact Kept.refl _ | with_reducible assumption | with_reducible refine Kept.drew ?_ | with_reducible refine Kept.drewN ?_ _ | with_reducible refine Kept.alloc ?_ _ | (with_reducible refine Kept.setCell ?_ (by first | exact Nat.le_refl _ | omega | (simp; done) | (simp; omega)) _) | (with_reducible refine Kept.trans ?_ (by with_reducible assumption))))⟩
      · have h1 := hgt (by unfold Before; omega)
        have h2 := beq_false_of_gt h1
        have h3 := decide_false_of_gt h1
        clear hlt hgt
        go_enter Try.func5, Try.ntmps5
        go_wp2_with fail
        (go_at_call 9; refine (Greg_awake _).mono ?_; rintro e w1 ⟨rfl, hk1⟩)
        have hB1_1 := hk1
        obtain ⟨hc1_1, hf1_1⟩ := kept_cells hB1_1
        have hz1_0_1 : w.heap.size < w1.heap.size := by have := hB1_1.size; simp at this; omega
        have hz1_1_1 : w.heap.size + 1 < w1.heap.size := by have := hB1_1.size; simp at this; omega
        go_wp2_with fail
        (go_at_call 16; refine (rValid_yes _ _ _ _ ha).mono ?_; rintro e w2 ⟨rfl, hk2⟩)
        have hB1_2 := Kept.trans hB1_1 hk2
        obtain ⟨hc1_2, hf1_2⟩ := kept_cells hB1_2
        have hz1_0_2 : w.heap.size < w2.heap.size := by have := hB1_2.size; simp at this; omega
        have hz1_1_2 : w.heap.size + 1 < w2.heap.size := by have := hB1_2.size; simp at this; omega
        go_wp2_with fail
        (go_at_call 16; refine (rValid_yes _ _ _ _ hb).mono ?_; rintro e w3 ⟨rfl, hk3⟩)
        have hB1_3 := Kept.trans hB1_2 hk3
        obtain ⟨hc1_3, hf1_3⟩ := kept_cells hB1_3
        have hz1_0_3 : w.heap.size < w3.heap.size := by have := hB1_3.size; simp at this; omega
        have hz1_1_3 : w.heap.size + 1 < w3.heap.size := by have := hB1_3.size; simp at this; omega
        go_wp2_with fail
        (go_at_call 10; refine (ToDay_ok _ _ _ _ ha).mono ?_; rintro e w4 ⟨rfl, hk4⟩)
        have hB1_4 := Kept.trans hB1_3 hk4
        obtain ⟨hc1_4, hf1_4⟩ := kept_cells hB1_4
        have hz1_0_4 : w.heap.size < w4.heap.size := by have := hB1_4.size; simp at this; omega
        have hz1_1_4 : w.heap.size + 1 < w4.heap.size := by have := hB1_4.size; simp at this; omega
        go_wp2_with fail
        (go_at_call 10; refine (ToDay_ok _ _ _ _ hb).mono ?_; rintro e w5 ⟨rfl, hk5⟩)
        have hB1_5 := Kept.trans hB1_4 hk5
        obtain ⟨hc1_5, hf1_5⟩ := kept_cells hB1_5
        have hz1_0_5 : w.heap.size < w5.heap.size := by have := hB1_5.size; simp at this; omega
        have hz1_1_5 : w.heap.size + 1 < w5.heap.size := by have := hB1_5.size; simp at this; omega
        go_wp2_with fail
        (go_at_call 17; refine (Less_no _ _ _ _ _ _ _ (by unfold Before; omega)).mono ?_; rintro e w6 ⟨rfl, hk6⟩)
        have hB1_6 := Kept.trans hB1_5 hk6
        obtain ⟨hc1_6, hf1_6⟩ := kept_cells hB1_6
        have hz1_0_6 : w.heap.size < w6.heap.size := by have := hB1_6.size; simp at this; omega
        have hz1_1_6 : w.heap.size + 1 < w6.heap.size := by have := hB1_6.size; simp at this; omega
        go_wp2
        go_ret
        exact ⟨rfl, (by repeat (first | with_reducible exact Kept.refl _ | with_reducible assumption | with_reducible refine Kept.drew ?_ | with_reducible refine Kept.drewN ?_ _ | with_reducible refine Kept.alloc ?_ _ | (with_reducible refine Kept.setCell ?_ (by first | exact Nat.le_refl _ | omega | (simp; done) | (simp; omega)) _) | (with_reducible refine Kept.trans ?_ (by with_reducible assumption))))⟩
      · have h1 := hgt (by unfold Before; omega)
        have h2 := beq_false_of_gt h1
        have h3 := decide_false_of_gt h1
        clear hlt hgt
        go_enter Try.func5, Try.ntmps5
        go_wp2_with fail
        (go_at_call 9; refine (Greg_awake _).mono ?_; rintro e w1 ⟨rfl, hk1⟩)
        have hB1_1 := hk1
        obtain ⟨hc1_1, hf1_1⟩ := kept_cells hB1_1
        have hz1_0_1 : w.heap.size < w1.heap.size := by have := hB1_1.size; simp at this; omega
        have hz1_1_1 : w.heap.size + 1 < w1.heap.size := by have := hB1_1.size; simp at this; omega
        go_wp2_with fail
        (go_at_call 16; refine (rValid_yes _ _ _ _ ha).mono ?_; rintro e w2 ⟨rfl, hk2⟩)
        have hB1_2 := Kept.trans hB1_1 hk2
        obtain ⟨hc1_2, hf1_2⟩ := kept_cells hB1_2
        have hz1_0_2 : w.heap.size < w2.heap.size := by have := hB1_2.size; simp at this; omega
        have hz1_1_2 : w.heap.size + 1 < w2.heap.size := by have := hB1_2.size; simp at this; omega
        go_wp2_with fail
        (go_at_call 16; refine (rValid_yes _ _ _ _ hb).mono ?_; rintro e w3 ⟨rfl, hk3⟩)
        have hB1_3 := Kept.trans hB1_2 hk3
        obtain ⟨hc1_3, hf1_3⟩ := kept_cells hB1_3
        have hz1_0_3 : w.heap.size < w3.heap.size := by have := hB1_3.size; simp at this; omega
        have hz1_1_3 : w.heap.size + 1 < w3.heap.size := by have := hB1_3.size; simp at this; omega
        go_wp2_with fail
        (go_at_call 10; refine (ToDay_ok _ _ _ _ ha).mono ?_; rintro e w4 ⟨rfl, hk4⟩)
        have hB1_4 := Kept.trans hB1_3 hk4
        obtain ⟨hc1_4, hf1_4⟩ := kept_cells hB1_4
        have hz1_0_4 : w.heap.size < w4.heap.size := by have := hB1_4.size; simp at this; omega
        have hz1_1_4 : w.heap.size + 1 < w4.heap.size := by have := hB1_4.size; simp at this; omega
        go_wp2_with fail
        (go_at_call 10; refine (ToDay_ok _ _ _ _ hb).mono ?_; rintro e w5 ⟨rfl, hk5⟩)
        have hB1_5 := Kept.trans hB1_4 hk5
        obtain ⟨hc1_5, hf1_5⟩ := kept_cells hB1_5
        have hz1_0_5 : w.heap.size < w5.heap.size := by have := hB1_5.size; simp at this; omega
        have hz1_1_5 : w.heap.size + 1 < w5.heap.size := by have := hB1_5.size; simp at this; omega
        go_wp2_with fail
        (go_at_call 17; refine (Less_no _ _ _ _ _ _ _ (by unfold Before; omega)).mono ?_; rintro e w6 ⟨rfl, hk6⟩)
        have hB1_6 := Kept.trans hB1_5 hk6
        obtain ⟨hc1_6, hf1_6⟩ := kept_cells hB1_6
        have hz1_0_6 : w.heap.size < w6.heap.size := by have := hB1_6.size; simp at this; omega
        have hz1_1_6 : w.heap.size + 1 < w6.heap.size := by have := hB1_6.size; simp at this; omega
        go_wp2
        go_ret
        exact ⟨rfl, (by repeat (first | with_reducible exact Kept.refl _ | with_reducible assumption | with_reducible refine Kept.drew ?_ | with_reducible refine Kept.drewN ?_ _ | with_reducible refine Kept.alloc ?_ _ | (with_reducible refine Kept.setCell ?_ (by first | exact Nat.le_refl _ | omega | (simp; done) | (simp; omega)) _) | (with_reducible refine Kept.trans ?_ (by with_reducible assumption))))⟩
    · go_enter Try.func5, Try.ntmps5
      go_wp2_with fail
      (go_at_call 9; refine (Greg_awake _).mono ?_; rintro e w1 ⟨rfl, hk1⟩)
      have hB1_1 := hk1
      obtain ⟨hc1_1, hf1_1⟩ := kept_cells hB1_1
      have hz1_0_1 : w.heap.size < w1.heap.size := by have := hB1_1.size; simp at this; omega
      have hz1_1_1 : w.heap.size + 1 < w1.heap.size := by have := hB1_1.size; simp at this; omega
      go_wp2_with fail
      (go_at_call 16; refine (rValid_yes _ _ _ _ ha).mono ?_; rintro e w2 ⟨rfl, hk2⟩)
      have hB1_2 := Kept.trans hB1_1 hk2
      obtain ⟨hc1_2, hf1_2⟩ := kept_cells hB1_2
      have hz1_0_2 : w.heap.size < w2.heap.size := by have := hB1_2.size; simp at this; omega
      have hz1_1_2 : w.heap.size + 1 < w2.heap.size := by have := hB1_2.size; simp at this; omega
      go_wp2_with fail
      (go_at_call 16; refine (rValid_no _ _ _ _ hb).mono ?_; rintro e w3 ⟨rfl, hk3⟩)
      have hB1_3 := Kept.trans hB1_2 hk3
      obtain ⟨hc1_3, hf1_3⟩ := kept_cells hB1_3
      have hz1_0_3 : w.heap.size < w3.heap.size := by have := hB1_3.size; simp at this; omega
      have hz1_1_3 : w.heap.size + 1 < w3.heap.size := by have := hB1_3.size; simp at this; omega
      go_wp2_with fail
      (go_at_call 9; refine (Greg_awake _).mono ?_; rintro e w4 ⟨rfl, hk4⟩)
      have hB1_4 := Kept.trans hB1_3 hk4
      obtain ⟨hc1_4, hf1_4⟩ := kept_cells hB1_4
      have hz1_0_4 : w.heap.size < w4.heap.size := by have := hB1_4.size; simp at this; omega
      have hz1_1_4 : w.heap.size + 1 < w4.heap.size := by have := hB1_4.size; simp at this; omega
      go_wp2
      go_ret
      exact ⟨rfl, (by repeat (first | with_reducible exact Kept.refl _ | with_reducible assumption | with_reducible refine Kept.drew ?_ | with_reducible refine Kept.drewN ?_ _ | with_reducible refine Kept.alloc ?_ _ | (with_reducible refine Kept.setCell ?_ (by first | exact Nat.le_refl _ | omega | (simp; done) | (simp; omega)) _) | (with_reducible refine Kept.trans ?_ (by with_reducible assumption))))⟩
  · go_enter Try.func5, Try.ntmps5
    go_wp2_with fail
    (go_at_call 9; refine (Greg_awake _).mono ?_; rintro e w1 ⟨rfl, hk1⟩)
    have hB1_1 := hk1
    obtain ⟨hc1_1, hf1_1⟩ := kept_cells hB1_1
    have hz1_0_1 : w.heap.size < w1.heap.size := by have := hB1_1.size; simp at this; omega
    have hz1_1_1 : w.heap.size + 1 < w1.heap.size := by have := hB1_1.size; simp at this; omega
    go_wp2_with fail
    (go_at_call 16; refine (rValid_no _ _ _ _ ha).mono ?_; rintro e w2 ⟨rfl, hk2⟩)
    have hB1_2 := Kept.trans hB1_1 hk2
    obtain ⟨hc1_2, hf1_2⟩ := kept_cells hB1_2
    have hz1_0_2 : w.heap.size < w2.heap.size := by have := hB1_2.size; simp at this; omega
    have hz1_1_2 : w.heap.size + 1 < w2.heap.size := by have := hB1_2.size; simp at this; omega
    go_wp2_with fail
    (go_at_call 9; refine (Greg_awake _).mono ?_; rintro e w3 ⟨rfl, hk3⟩)
    have hB1_3 := Kept.trans hB1_2 hk3
    obtain ⟨hc1_3, hf1_3⟩ := kept_cells hB1_3
    have hz1_0_3 : w.heap.size < w3.heap.size := by have := hB1_3.size; simp at this; omega
    have hz1_1_3 : w.heap.size + 1 < w3.heap.size := by have := hB1_3.size; simp at this; omega
    go_wp2
    go_ret
    exact ⟨rfl, (by repeat (first | with_reducible exact Kept.refl _ | with_reducible assumption | with_reducible refine Kept.drew ?_ | with_reducible refine Kept.drewN ?_ _ | with_reducible refine Kept.alloc ?_ _ | (with_reducible refine Kept.setCell ?_ (by first | exact Nat.le_refl _ | omega | (simp; done) | (simp; omega)) _) | (with_reducible refine Kept.trans ?_ (by with_reducible assumption))))⟩

set_option maxRecDepth 100000 in
theorem GregorianOrder_lifted (os : Os) (started : os.Started) (H : Type) (enc : TypeId × Value → H) :
    ReturnsInHanded {} Try.checked os 5 .any (Rows.gregorianOrderSpec.pre6 enc Try.prog Try.f5 Rows.gregorianOrderRow.domain false) (Rows.gregorianOrderSpec.post enc Try.prog Try.f5 false true false false) := by
  refine returnsInHanded_of_change (C := Try.checked) own_knob started (by kernel_rfl) Try.func5
    (ChangeSpec.witness6 (enc := enc) (C := Try.checked) false ⟨#[], #[.agg #[.int .i64 0, .int .i64 0, .int .i64 0], .agg #[.int .i64 0, .int .i64 0, .int .i64 0]], []⟩ 8 (by kernel_rfl) (by kernel_rfl) (by kernel_rfl) (by kernel_rfl)) ?_
  intro W base args ds gs before hval0 hW hcnd _
  have hval : ∀ (j : Nat) t v, Try.f5.params[j]? = some t → args[j]? = some v → Value.okWide Try.prog W .any base t v := hval0
  have hW' := hW
  obtain ⟨p, q, hA0, hV, rfl, hfz, hnd⟩ := hW
  have hA : DataW.TrodAll enc Try.prog W 0 (fun _ => true) true Try.f5.params.toList args.toList ds p := hA0
  rw [Try.params5] at hA hval
  obtain ⟨v0, vs0, d0, ds0, p0, q0, hargs, rfl, rfl, h0, r0⟩ := trodAll_cons hA
  obtain ⟨v1, vs1, d1, ds1, p1, q1, rfl, rfl, rfl, h1, r1⟩ := trodAll_cons r0
  obtain ⟨rfl, rfl, rfl⟩ := trodAll_nil r1
  obtain rfl : args = #[v0, v1] := by cases args; simp_all
  obtain ⟨rfl, rfl⟩ := trodVars_none hV
  obtain ⟨c00, c01, c02, y00, y01, y02, m0, rfl, rfl, rfl, hy00, hy01, hy02⟩ := open_agg3 Try.underlying23 (by kernel_rfl) cells_Date (hval 0 23 v0 rfl rfl) h0
  obtain ⟨a00, e00, rfl, w00⟩ := DataW.trod_int Try.underlying3 hy00
  obtain ⟨a01, e01, rfl, w01⟩ := DataW.trod_int Try.underlying3 hy01
  obtain ⟨a02, e02, rfl, w02⟩ := DataW.trod_int Try.underlying3 hy02
  simp at e00 e01 e02
  subst e00 e01 e02
  obtain ⟨c10, c11, c12, y10, y11, y12, m1, rfl, rfl, rfl, hy10, hy11, hy12⟩ := open_agg3 Try.underlying23 (by kernel_rfl) cells_Date (hval 1 23 v1 rfl rfl) h1
  obtain ⟨a10, e10, rfl, w10⟩ := DataW.trod_int Try.underlying3 hy10
  obtain ⟨a11, e11, rfl, w11⟩ := DataW.trod_int Try.underlying3 hy11
  obtain ⟨a12, e12, rfl, w12⟩ := DataW.trod_int Try.underlying3 hy12
  simp at e10 e11 e12
  subst e10 e11 e12
  clear hA0 hval0
  simp only [List.append_nil] at hW'
  refine (GregorianOrder_walk a00 a01 a02 a10 a11 a12 (wf_bounds w00) (wf_bounds w01) (wf_bounds w02) (wf_bounds w10) (wf_bounds w11) (wf_bounds w12) W).mono fun e W' ⟨he, hg⟩ => ?_
  subst he
  exact ⟨_, rfl, post_of_kept (pa := []) (pv := []) hW' (fun _ _ _ => (trodAll_cons_mk (shut_bool Try.underlying4 _) trodAll_mk0)) (fun sp _ => (trodAll_cons_mk (shut_agg3 (y0 := (.lit (.int .i64 a00), [])) (y1 := (.lit (.int .i64 a01), [])) (y2 := (.lit (.int .i64 a02), [])) Try.underlying23 (by kernel_rfl) cells_Date ⟨1, by simp [DataW.trod, Try.underlying3, w00]⟩ ⟨1, by simp [DataW.trod, Try.underlying3, w01]⟩ ⟨1, by simp [DataW.trod, Try.underlying3, w02]⟩) (trodAll_cons_mk (shut_agg3 (y0 := (.lit (.int .i64 a10), [])) (y1 := (.lit (.int .i64 a11), [])) (y2 := (.lit (.int .i64 a12), [])) Try.underlying23 (by kernel_rfl) cells_Date ⟨1, by simp [DataW.trod, Try.underlying3, w10]⟩ ⟨1, by simp [DataW.trod, Try.underlying3, w11]⟩ ⟨1, by simp [DataW.trod, Try.underlying3, w12]⟩) trodAll_mk0))) (fun _ _ => rfl) rfl
    hg (ok_one (by kernel_rfl) rfl (okWide_bool_mk Try.underlying4 _))⟩
theorem GregorianOrder_proved : Rows.GregorianOrderSaid :=
  OpenClaim.holds_of_wide 5 Try.f5 rfl rfl rfl rfl rfl rfl rfl ⟨rfl, rfl, rfl, rfl, rfl⟩ rfl rfl rfl rfl rfl (by kernel_rfl) Try.func5 (by kernel_rfl)
    (of_decide_eq_true (by kernel_rfl)) (by unfold Func.isWrapper; first | (rw [if_pos (by decide +kernel)]; kernel_rfl) | (rw [if_neg (by decide +kernel)]; exact ⟨rfl, rfl⟩))
    (fun os started H enc _ => GregorianOrder_lifted os started H enc)
#print axioms GregorianOrder_proved
end Go.Proofs.Ytolgbpnfhghgaaa

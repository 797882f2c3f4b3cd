/- 'Rows.CivilConvertCardSaid': for both calendars and every date, converting to the other calendar and back returns the date, the same day, with the same day of the week. No condition but that julian.lengths lies as the program's text lays it, which the card ties. -/
import Derived.Test.YtcfgiboknkkheaaDoorCivAw
set_option linter.unusedSimpArgs false
set_option linter.unusedVariables false
set_option linter.unusedSectionVars false
namespace Go.Proofs.YtcfgiboknkkheaaDoor
open Go.ChangeShapes Go.WideShapes Go.ChangeAt Go.RowKit Go.Joins
set_option maxHeartbeats 1000000

theorem CivilConvert_walk (c y m d : Int) (_bc : 0 ≤ c ∧ c ≤ 255) (_by : -9223372036854775808 ≤ y ∧ y ≤ 9223372036854775807) (_bm : -9223372036854775808 ≤ m ∧ m ≤ 9223372036854775807) (_bd : -9223372036854775808 ≤ d ∧ d ≤ 9223372036854775807) (w : World) (hT : Tab w) :
    Calls Tryd.prog 10 #[.int .u8 c, .agg #[.int .i64 y, .int .i64 m, .int .i64 d]] w fun e w' => e = .returned (.bool true) ∧ Kept w w' := by
  clear _by _bm _bd
  obtain ⟨c1, c2⟩ := _bc
  have KT := Lib.hid (fun w' (k : Kept w w') => hT.kept k)
  clear hT
  rcases (show c % 2 = 0 ∨ c % 2 = 1 by omega) with hc | hc
  · obtain ⟨x1, x2, x3, e, hcv⟩ := cv_some y m d 1 2
    rcases cv_err _ _ _ _ _ _ _ _ _ hcv with rfl | ⟨he, _⟩
    · obtain ⟨ha, hb, h1, h2, h3⟩ := cv_zero _ _ _ _ _ _ _ _ hcv
      have hback := Lib.hid (cv_ok x1 x2 x3 2 1 y m d hb ha h2 h1 h3.symm)
      obtain ⟨p1, p2⟩ := c_ok 1 y m d ha h1
      obtain ⟨q1, q2⟩ := c_ok 2 x1 x2 x3 hb h2
      have KA := Lib.hid (fun w hT => CToDay_all 1 y m d w hT)
      have KB := Lib.hid (fun w hT => CToDay_all 2 x1 x2 x3 w hT)
      have KV := Lib.hid (fun w hT => Weekday_all 1 y m d w hT)
      have KW := Lib.hid (fun w hT => Weekday_all 2 x1 x2 x3 w hT)
      rw [p1, p2] at KA
      rw [q1, q2, ← h3] at KB
      rw [show wdN 1 y m d = num 1 y m d % 7 from by unfold wdN; rw [if_pos p2, p1], p2] at KV
      rw [show wdN 2 x1 x2 x3 = num 1 y m d % 7 from by unfold wdN; rw [if_pos q2, q1, h3], q2] at KW
      have HC := Lib.hid hcv
      clear hcv ha hb h1 h2 h3 p1 p2 q1 q2
      go_enter Tryd.func10, Tryd.ntmps10
      go_wp2_with fail
      (go_at_call 13; refine (Civ_awake _ (KT.out _ (by repeat (first | with_reducible exact Kept.refl _ | with_reducible assumption | with_reducible refine Kept.drew ?_ | with_reducible refine Kept.drewN ?_ _ | with_reducible refine Kept.alloc ?_ _ | (with_reducible refine Kept.setCell ?_ (by first | exact Nat.le_refl _ | omega | (simp; done) | (simp; omega)) _) | (with_reducible refine Kept.trans ?_ (by with_reducible assumption)))))).mono ?_; rintro e w1 ⟨rfl, hk1⟩)
      have hB1_1 := hk1
      obtain ⟨hc1_1, hf1_1⟩ := kept_cells hB1_1
      have hz1_0_1 : w.heap.size < w1.heap.size := by have := hB1_1.size; simp at this; omega
      go_wp2_with fail
      (go_at_call 17; refine (Convert_all _ _ _ _ _ _ _ _ _ _ (KT.out _ (by repeat (first | with_reducible exact Kept.refl _ | with_reducible assumption | with_reducible refine Kept.drew ?_ | with_reducible refine Kept.drewN ?_ _ | with_reducible refine Kept.alloc ?_ _ | (with_reducible refine Kept.setCell ?_ (by first | exact Nat.le_refl _ | omega | (simp; done) | (simp; omega)) _) | (with_reducible refine Kept.trans ?_ (by with_reducible assumption))))) HC.out).mono ?_; rintro e w2 ⟨rfl, hk2⟩)
      have hB1_2 := Kept.trans hB1_1 hk2
      obtain ⟨hc1_2, hf1_2⟩ := kept_cells hB1_2
      have hz1_0_2 : w.heap.size < w2.heap.size := by have := hB1_2.size; simp at this; omega
      go_wp2_with fail
      (go_at_call 17; refine (Convert_all _ _ _ _ _ _ _ _ _ _ (KT.out _ (by repeat (first | with_reducible exact Kept.refl _ | with_reducible assumption | with_reducible refine Kept.drew ?_ | with_reducible refine Kept.drewN ?_ _ | with_reducible refine Kept.alloc ?_ _ | (with_reducible refine Kept.setCell ?_ (by first | exact Nat.le_refl _ | omega | (simp; done) | (simp; omega)) _) | (with_reducible refine Kept.trans ?_ (by with_reducible assumption))))) hback.out).mono ?_; rintro e w3 ⟨rfl, hk3⟩)
      have hB1_3 := Kept.trans (Kept.alloc hB1_2 _) hk3
      have hB3_3 := hk3
      obtain ⟨hc1_3, hf1_3⟩ := kept_cells hB1_3
      have hz1_0_3 : w.heap.size < w3.heap.size := by have := hB1_3.size; simp at this; omega
      obtain ⟨hc3_3, hf3_3⟩ := kept_cells hB3_3
      have hz3_0_3 : w2.heap.size < w3.heap.size := by have := hB3_3.size; simp at this; omega
      go_wp2_with fail
      (go_at_call 31; refine (KA.out _ (KT.out _ (by repeat (first | with_reducible exact Kept.refl _ | with_reducible assumption | with_reducible refine Kept.drew ?_ | with_reducible refine Kept.drewN ?_ _ | with_reducible refine Kept.alloc ?_ _ | (with_reducible refine Kept.setCell ?_ (by first | exact Nat.le_refl _ | omega | (simp; done) | (simp; omega)) _) | (with_reducible refine Kept.trans ?_ (by with_reducible assumption)))))).mono ?_; rintro e w4 ⟨rfl, hk4⟩)
      have hB1_4 := Kept.trans (Kept.alloc hB1_3 _) hk4
      have hB3_4 := Kept.trans (Kept.alloc hB3_3 _) hk4
      have hB4_4 := hk4
      obtain ⟨hc1_4, hf1_4⟩ := kept_cells hB1_4
      have hz1_0_4 : w.heap.size < w4.heap.size := by have := hB1_4.size; simp at this; omega
      obtain ⟨hc3_4, hf3_4⟩ := kept_cells hB3_4
      have hz3_0_4 : w2.heap.size < w4.heap.size := by have := hB3_4.size; simp at this; omega
      obtain ⟨hc4_4, hf4_4⟩ := kept_cells hB4_4
      have hz4_0_4 : w3.heap.size < w4.heap.size := by have := hB4_4.size; simp at this; omega
      go_wp2_with fail
      (go_at_call 31; refine (KB.out _ (KT.out _ (by repeat (first | with_reducible exact Kept.refl _ | with_reducible assumption | with_reducible refine Kept.drew ?_ | with_reducible refine Kept.drewN ?_ _ | with_reducible refine Kept.alloc ?_ _ | (with_reducible refine Kept.setCell ?_ (by first | exact Nat.le_refl _ | omega | (simp; done) | (simp; omega)) _) | (with_reducible refine Kept.trans ?_ (by with_reducible assumption)))))).mono ?_; rintro e w5 ⟨rfl, hk5⟩)
      have hB1_5 := Kept.trans hB1_4 hk5
      have hB3_5 := Kept.trans hB3_4 hk5
      have hB4_5 := Kept.trans hB4_4 hk5
      obtain ⟨hc1_5, hf1_5⟩ := kept_cells hB1_5
      have hz1_0_5 : w.heap.size < w5.heap.size := by have := hB1_5.size; simp at this; omega
      obtain ⟨hc3_5, hf3_5⟩ := kept_cells hB3_5
      have hz3_0_5 : w2.heap.size < w5.heap.size := by have := hB3_5.size; simp at this; omega
      obtain ⟨hc4_5, hf4_5⟩ := kept_cells hB4_5
      have hz4_0_5 : w3.heap.size < w5.heap.size := by have := hB4_5.size; simp at this; omega
      go_wp2_with fail
      (go_at_call 32; refine (KV.out _ (KT.out _ (by repeat (first | with_reducible exact Kept.refl _ | with_reducible assumption | with_reducible refine Kept.drew ?_ | with_reducible refine Kept.drewN ?_ _ | with_reducible refine Kept.alloc ?_ _ | (with_reducible refine Kept.setCell ?_ (by first | exact Nat.le_refl _ | omega | (simp; done) | (simp; omega)) _) | (with_reducible refine Kept.trans ?_ (by with_reducible assumption)))))).mono ?_; rintro e w6 ⟨rfl, hk6⟩)
      have hB1_6 := Kept.trans hB1_5 hk6
      have hB3_6 := Kept.trans hB3_5 hk6
      have hB4_6 := Kept.trans hB4_5 hk6
      obtain ⟨hc1_6, hf1_6⟩ := kept_cells hB1_6
      have hz1_0_6 : w.heap.size < w6.heap.size := by have := hB1_6.size; simp at this; omega
      obtain ⟨hc3_6, hf3_6⟩ := kept_cells hB3_6
      have hz3_0_6 : w2.heap.size < w6.heap.size := by have := hB3_6.size; simp at this; omega
      obtain ⟨hc4_6, hf4_6⟩ := kept_cells hB4_6
      have hz4_0_6 : w3.heap.size < w6.heap.size := by have := hB4_6.size; simp at this; omega
      go_wp2_with fail
      (go_at_call 32; refine (KW.out _ (KT.out _ (by repeat (first | with_reducible exact Kept.refl _ | with_reducible assumption | with_reducible refine Kept.drew ?_ | with_reducible refine Kept.drewN ?_ _ | with_reducible refine Kept.alloc ?_ _ | (with_reducible refine Kept.setCell ?_ (by first | exact Nat.le_refl _ | omega | (simp; done) | (simp; omega)) _) | (with_reducible refine Kept.trans ?_ (by with_reducible assumption)))))).mono ?_; rintro e w7 ⟨rfl, hk7⟩)
      have hB1_7 := Kept.trans hB1_6 hk7
      have hB3_7 := Kept.trans hB3_6 hk7
      have hB4_7 := Kept.trans hB4_6 hk7
      obtain ⟨hc1_7, hf1_7⟩ := kept_cells hB1_7
      have hz1_0_7 : w.heap.size < w7.heap.size := by have := hB1_7.size; simp at this; omega
      obtain ⟨hc3_7, hf3_7⟩ := kept_cells hB3_7
      have hz3_0_7 : w2.heap.size < w7.heap.size := by have := hB3_7.size; simp at this; omega
      obtain ⟨hc4_7, hf4_7⟩ := kept_cells hB4_7
      have hz4_0_7 : w3.heap.size < w7.heap.size := by have := hB4_7.size; simp at this; omega
      go_wp2
      go_ret
      exact ⟨rfl, (by repeat (first | with_reducible exact Kept.refl _ | with_reducible assumption | with_reducible refine Kept.drew ?_ | with_reducible refine Kept.drewN ?_ _ | with_reducible refine Kept.alloc ?_ _ | (with_reducible refine Kept.setCell ?_ (by first | exact Nat.le_refl _ | omega | (simp; done) | (simp; omega)) _) | (with_reducible refine Kept.trans ?_ (by with_reducible assumption))))⟩
    · have HC := Lib.hid hcv
      clear hcv
      go_enter Tryd.func10, Tryd.ntmps10
      go_wp2_with fail
      (go_at_call 13; refine (Civ_awake _ (KT.out _ (by repeat (first | with_reducible exact Kept.refl _ | with_reducible assumption | with_reducible refine Kept.drew ?_ | with_reducible refine Kept.drewN ?_ _ | with_reducible refine Kept.alloc ?_ _ | (with_reducible refine Kept.setCell ?_ (by first | exact Nat.le_refl _ | omega | (simp; done) | (simp; omega)) _) | (with_reducible refine Kept.trans ?_ (by with_reducible assumption)))))).mono ?_; rintro e w1 ⟨rfl, hk1⟩)
      have hB1_1 := hk1
      obtain ⟨hc1_1, hf1_1⟩ := kept_cells hB1_1
      have hz1_0_1 : w.heap.size < w1.heap.size := by have := hB1_1.size; simp at this; omega
      go_wp2_with fail
      (go_at_call 17; refine (Convert_all _ _ _ _ _ _ _ _ _ _ (KT.out _ (by repeat (first | with_reducible exact Kept.refl _ | with_reducible assumption | with_reducible refine Kept.drew ?_ | with_reducible refine Kept.drewN ?_ _ | with_reducible refine Kept.alloc ?_ _ | (with_reducible refine Kept.setCell ?_ (by first | exact Nat.le_refl _ | omega | (simp; done) | (simp; omega)) _) | (with_reducible refine Kept.trans ?_ (by with_reducible assumption))))) HC.out).mono ?_; rintro e w2 ⟨rfl, hk2⟩)
      have hB1_2 := Kept.trans hB1_1 hk2
      obtain ⟨hc1_2, hf1_2⟩ := kept_cells hB1_2
      have hz1_0_2 : w.heap.size < w2.heap.size := by have := hB1_2.size; simp at this; omega
      go_wp2
      go_ret
      exact ⟨rfl, (by repeat (first | with_reducible exact Kept.refl _ | with_reducible assumption | with_reducible refine Kept.drew ?_ | with_reducible refine Kept.drewN ?_ _ | with_reducible refine Kept.alloc ?_ _ | (with_reducible refine Kept.setCell ?_ (by first | exact Nat.le_refl _ | omega | (simp; done) | (simp; omega)) _) | (with_reducible refine Kept.trans ?_ (by with_reducible assumption))))⟩
  · obtain ⟨x1, x2, x3, e, hcv⟩ := cv_some y m d 2 1
    rcases cv_err _ _ _ _ _ _ _ _ _ hcv with rfl | ⟨he, _⟩
    · obtain ⟨ha, hb, h1, h2, h3⟩ := cv_zero _ _ _ _ _ _ _ _ hcv
      have hback := Lib.hid (cv_ok x1 x2 x3 1 2 y m d hb ha h2 h1 h3.symm)
      obtain ⟨p1, p2⟩ := c_ok 2 y m d ha h1
      obtain ⟨q1, q2⟩ := c_ok 1 x1 x2 x3 hb h2
      have KA := Lib.hid (fun w hT => CToDay_all 2 y m d w hT)
      have KB := Lib.hid (fun w hT => CToDay_all 1 x1 x2 x3 w hT)
      have KV := Lib.hid (fun w hT => Weekday_all 2 y m d w hT)
      have KW := Lib.hid (fun w hT => Weekday_all 1 x1 x2 x3 w hT)
      rw [p1, p2] at KA
      rw [q1, q2, ← h3] at KB
      rw [show wdN 2 y m d = num 2 y m d % 7 from by unfold wdN; rw [if_pos p2, p1], p2] at KV
      rw [show wdN 1 x1 x2 x3 = num 2 y m d % 7 from by unfold wdN; rw [if_pos q2, q1, h3], q2] at KW
      have HC := Lib.hid hcv
      clear hcv ha hb h1 h2 h3 p1 p2 q1 q2
      go_enter Tryd.func10, Tryd.ntmps10
      go_wp2_with fail
      (go_at_call 13; refine (Civ_awake _ (KT.out _ (by repeat (first | with_reducible exact Kept.refl _ | with_reducible assumption | with_reducible refine Kept.drew ?_ | with_reducible refine Kept.drewN ?_ _ | with_reducible refine Kept.alloc ?_ _ | (with_reducible refine Kept.setCell ?_ (by first | exact Nat.le_refl _ | omega | (simp; done) | (simp; omega)) _) | (with_reducible refine Kept.trans ?_ (by with_reducible assumption)))))).mono ?_; rintro e w1 ⟨rfl, hk1⟩)
      have hB1_1 := hk1
      obtain ⟨hc1_1, hf1_1⟩ := kept_cells hB1_1
      have hz1_0_1 : w.heap.size < w1.heap.size := by have := hB1_1.size; simp at this; omega
      go_wp2_with fail
      (go_at_call 17; refine (Convert_all _ _ _ _ _ _ _ _ _ _ (KT.out _ (by repeat (first | with_reducible exact Kept.refl _ | with_reducible assumption | with_reducible refine Kept.drew ?_ | with_reducible refine Kept.drewN ?_ _ | with_reducible refine Kept.alloc ?_ _ | (with_reducible refine Kept.setCell ?_ (by first | exact Nat.le_refl _ | omega | (simp; done) | (simp; omega)) _) | (with_reducible refine Kept.trans ?_ (by with_reducible assumption))))) HC.out).mono ?_; rintro e w2 ⟨rfl, hk2⟩)
      have hB1_2 := Kept.trans hB1_1 hk2
      obtain ⟨hc1_2, hf1_2⟩ := kept_cells hB1_2
      have hz1_0_2 : w.heap.size < w2.heap.size := by have := hB1_2.size; simp at this; omega
      go_wp2_with fail
      (go_at_call 17; refine (Convert_all _ _ _ _ _ _ _ _ _ _ (KT.out _ (by repeat (first | with_reducible exact Kept.refl _ | with_reducible assumption | with_reducible refine Kept.drew ?_ | with_reducible refine Kept.drewN ?_ _ | with_reducible refine Kept.alloc ?_ _ | (with_reducible refine Kept.setCell ?_ (by first | exact Nat.le_refl _ | omega | (simp; done) | (simp; omega)) _) | (with_reducible refine Kept.trans ?_ (by with_reducible assumption))))) hback.out).mono ?_; rintro e w3 ⟨rfl, hk3⟩)
      have hB1_3 := Kept.trans (Kept.alloc hB1_2 _) hk3
      have hB3_3 := hk3
      obtain ⟨hc1_3, hf1_3⟩ := kept_cells hB1_3
      have hz1_0_3 : w.heap.size < w3.heap.size := by have := hB1_3.size; simp at this; omega
      obtain ⟨hc3_3, hf3_3⟩ := kept_cells hB3_3
      have hz3_0_3 : w2.heap.size < w3.heap.size := by have := hB3_3.size; simp at this; omega
      go_wp2_with fail
      (go_at_call 31; refine (KA.out _ (KT.out _ (by repeat (first | with_reducible exact Kept.refl _ | with_reducible assumption | with_reducible refine Kept.drew ?_ | with_reducible refine Kept.drewN ?_ _ | with_reducible refine Kept.alloc ?_ _ | (with_reducible refine Kept.setCell ?_ (by first | exact Nat.le_refl _ | omega | (simp; done) | (simp; omega)) _) | (with_reducible refine Kept.trans ?_ (by with_reducible assumption)))))).mono ?_; rintro e w4 ⟨rfl, hk4⟩)
      have hB1_4 := Kept.trans (Kept.alloc hB1_3 _) hk4
      have hB3_4 := Kept.trans (Kept.alloc hB3_3 _) hk4
      have hB4_4 := hk4
      obtain ⟨hc1_4, hf1_4⟩ := kept_cells hB1_4
      have hz1_0_4 : w.heap.size < w4.heap.size := by have := hB1_4.size; simp at this; omega
      obtain ⟨hc3_4, hf3_4⟩ := kept_cells hB3_4
      have hz3_0_4 : w2.heap.size < w4.heap.size := by have := hB3_4.size; simp at this; omega
      obtain ⟨hc4_4, hf4_4⟩ := kept_cells hB4_4
      have hz4_0_4 : w3.heap.size < w4.heap.size := by have := hB4_4.size; simp at this; omega
      go_wp2_with fail
      (go_at_call 31; refine (KB.out _ (KT.out _ (by repeat (first | with_reducible exact Kept.refl _ | with_reducible assumption | with_reducible refine Kept.drew ?_ | with_reducible refine Kept.drewN ?_ _ | with_reducible refine Kept.alloc ?_ _ | (with_reducible refine Kept.setCell ?_ (by first | exact Nat.le_refl _ | omega | (simp; done) | (simp; omega)) _) | (with_reducible refine Kept.trans ?_ (by with_reducible assumption)))))).mono ?_; rintro e w5 ⟨rfl, hk5⟩)
      have hB1_5 := Kept.trans hB1_4 hk5
      have hB3_5 := Kept.trans hB3_4 hk5
      have hB4_5 := Kept.trans hB4_4 hk5
      obtain ⟨hc1_5, hf1_5⟩ := kept_cells hB1_5
      have hz1_0_5 : w.heap.size < w5.heap.size := by have := hB1_5.size; simp at this; omega
      obtain ⟨hc3_5, hf3_5⟩ := kept_cells hB3_5
      have hz3_0_5 : w2.heap.size < w5.heap.size := by have := hB3_5.size; simp at this; omega
      obtain ⟨hc4_5, hf4_5⟩ := kept_cells hB4_5
      have hz4_0_5 : w3.heap.size < w5.heap.size := by have := hB4_5.size; simp at this; omega
      go_wp2_with fail
      (go_at_call 32; refine (KV.out _ (KT.out _ (by repeat (first | with_reducible exact Kept.refl _ | with_reducible assumption | with_reducible refine Kept.drew ?_ | with_reducible refine Kept.drewN ?_ _ | with_reducible refine Kept.alloc ?_ _ | (with_reducible refine Kept.setCell ?_ (by first | exact Nat.le_refl _ | omega | (simp; done) | (simp; omega)) _) | (with_reducible refine Kept.trans ?_ (by with_reducible assumption)))))).mono ?_; rintro e w6 ⟨rfl, hk6⟩)
      have hB1_6 := Kept.trans hB1_5 hk6
      have hB3_6 := Kept.trans hB3_5 hk6
      have hB4_6 := Kept.trans hB4_5 hk6
      obtain ⟨hc1_6, hf1_6⟩ := kept_cells hB1_6
      have hz1_0_6 : w.heap.size < w6.heap.size := by have := hB1_6.size; simp at this; omega
      obtain ⟨hc3_6, hf3_6⟩ := kept_cells hB3_6
      have hz3_0_6 : w2.heap.size < w6.heap.size := by have := hB3_6.size; simp at this; omega
      obtain ⟨hc4_6, hf4_6⟩ := kept_cells hB4_6
      have hz4_0_6 : w3.heap.size < w6.heap.size := by have := hB4_6.size; simp at this; omega
      go_wp2_with fail
      (go_at_call 32; refine (KW.out _ (KT.out _ (by repeat (first | with_reducible exact Kept.refl _ | with_reducible assumption | with_reducible refine Kept.drew ?_ | with_reducible refine Kept.drewN ?_ _ | with_reducible refine Kept.alloc ?_ _ | (with_reducible refine Kept.setCell ?_ (by first | exact Nat.le_refl _ | omega | (simp; done) | (simp; omega)) _) | (with_reducible refine Kept.trans ?_ (by with_reducible assumption)))))).mono ?_; rintro e w7 ⟨rfl, hk7⟩)
      have hB1_7 := Kept.trans hB1_6 hk7
      have hB3_7 := Kept.trans hB3_6 hk7
      have hB4_7 := Kept.trans hB4_6 hk7
      obtain ⟨hc1_7, hf1_7⟩ := kept_cells hB1_7
      have hz1_0_7 : w.heap.size < w7.heap.size := by have := hB1_7.size; simp at this; omega
      obtain ⟨hc3_7, hf3_7⟩ := kept_cells hB3_7
      have hz3_0_7 : w2.heap.size < w7.heap.size := by have := hB3_7.size; simp at this; omega
      obtain ⟨hc4_7, hf4_7⟩ := kept_cells hB4_7
      have hz4_0_7 : w3.heap.size < w7.heap.size := by have := hB4_7.size; simp at this; omega
      go_wp2
      go_ret
      exact ⟨rfl, (by repeat (first | with_reducible exact Kept.refl _ | with_reducible assumption | with_reducible refine Kept.drew ?_ | with_reducible refine Kept.drewN ?_ _ | with_reducible refine Kept.alloc ?_ _ | (with_reducible refine Kept.setCell ?_ (by first | exact Nat.le_refl _ | omega | (simp; done) | (simp; omega)) _) | (with_reducible refine Kept.trans ?_ (by with_reducible assumption))))⟩
    · have HC := Lib.hid hcv
      clear hcv
      go_enter Tryd.func10, Tryd.ntmps10
      go_wp2_with fail
      (go_at_call 13; refine (Civ_awake _ (KT.out _ (by repeat (first | with_reducible exact Kept.refl _ | with_reducible assumption | with_reducible refine Kept.drew ?_ | with_reducible refine Kept.drewN ?_ _ | with_reducible refine Kept.alloc ?_ _ | (with_reducible refine Kept.setCell ?_ (by first | exact Nat.le_refl _ | omega | (simp; done) | (simp; omega)) _) | (with_reducible refine Kept.trans ?_ (by with_reducible assumption)))))).mono ?_; rintro e w1 ⟨rfl, hk1⟩)
      have hB1_1 := hk1
      obtain ⟨hc1_1, hf1_1⟩ := kept_cells hB1_1
      have hz1_0_1 : w.heap.size < w1.heap.size := by have := hB1_1.size; simp at this; omega
      go_wp2_with fail
      (go_at_call 17; refine (Convert_all _ _ _ _ _ _ _ _ _ _ (KT.out _ (by repeat (first | with_reducible exact Kept.refl _ | with_reducible assumption | with_reducible refine Kept.drew ?_ | with_reducible refine Kept.drewN ?_ _ | with_reducible refine Kept.alloc ?_ _ | (with_reducible refine Kept.setCell ?_ (by first | exact Nat.le_refl _ | omega | (simp; done) | (simp; omega)) _) | (with_reducible refine Kept.trans ?_ (by with_reducible assumption))))) HC.out).mono ?_; rintro e w2 ⟨rfl, hk2⟩)
      have hB1_2 := Kept.trans hB1_1 hk2
      obtain ⟨hc1_2, hf1_2⟩ := kept_cells hB1_2
      have hz1_0_2 : w.heap.size < w2.heap.size := by have := hB1_2.size; simp at this; omega
      go_wp2
      go_ret
      exact ⟨rfl, (by repeat (first | with_reducible exact Kept.refl _ | with_reducible assumption | with_reducible refine Kept.drew ?_ | with_reducible refine Kept.drewN ?_ _ | with_reducible refine Kept.alloc ?_ _ | (with_reducible refine Kept.setCell ?_ (by first | exact Nat.le_refl _ | omega | (simp; done) | (simp; omega)) _) | (with_reducible refine Kept.trans ?_ (by with_reducible assumption))))⟩

set_option maxRecDepth 100000 in
theorem CivilConvert_contract (H : Type) (enc : TypeId × Value → H) (W : World) (base : Nat) (args : Array Value) (ds gs : List (DataW H)) (before : List MemPlace)
    (hval : ∀ (j : Nat) t v, Tryd.f10.params[j]? = some t → args[j]? = some v → Value.okWide Tryd.prog W .any base t v)
    (hW : DataW.Whole enc Tryd.prog Tryd.f10.params.toList Rows.civilConvertSpec.vars false W args.toList ds gs before) (hL : laidMetH Tryd.prog Rows.civilConvertRow.laid W) :
    Calls Tryd.prog 10 args W fun e W' => ∃ v, e = .returned v ∧ Rows.civilConvertSpec.post enc Tryd.prog Tryd.f10 false true false false W args v W' := by
  have hW' := hW
  obtain ⟨p, q, hA0, hV, rfl, hfz, hnd⟩ := hW
  have hA : DataW.TrodAll enc Tryd.prog W 0 (fun _ => true) true Tryd.f10.params.toList args.toList ds p := hA0
  rw [Tryd.params10] at hA hval
  obtain ⟨v0, vs0, d0, ds0, p0, q0, hargs, rfl, rfl, h0, r0⟩ := trodAll_cons hA
  obtain ⟨v1, vs1, d1, ds1, p1, q1, rfl, rfl, rfl, h1, r1⟩ := trodAll_cons r0
  obtain ⟨rfl, rfl, rfl⟩ := trodAll_nil r1
  obtain rfl : args = #[v0, v1] := by cases args; simp_all
  obtain ⟨rfl, rfl⟩ := trodVars_none hV
  obtain ⟨a0, rfl, rfl, rfl, w0⟩ := open_int Tryd.underlying5 (hval 0 5 v0 rfl rfl) h0
  obtain ⟨c10, c11, c12, y10, y11, y12, m1, rfl, rfl, rfl, hy10, hy11, hy12⟩ := open_agg3 Tryd.underlying23 (by kernel_rfl) cells_Date (hval 1 23 v1 rfl rfl) h1
  obtain ⟨a10, e10, rfl, w10⟩ := DataW.trod_int Tryd.underlying3 hy10
  obtain ⟨a11, e11, rfl, w11⟩ := DataW.trod_int Tryd.underlying3 hy11
  obtain ⟨a12, e12, rfl, w12⟩ := DataW.trod_int Tryd.underlying3 hy12
  simp at e10 e11 e12
  subst e10 e11 e12
  clear hA0
  simp only [List.append_nil] at hW'
  refine (CivilConvert_walk a0 a10 a11 a12 (wf_bounds8 w0) (wf_bounds w10) (wf_bounds w11) (wf_bounds w12) W (tab_of hL)).mono fun e W' ⟨he, hg⟩ => ?_
  subst he
  exact ⟨_, rfl, post_of_kept (pa := []) (pv := []) hW' (fun _ _ _ => (trodAll_cons_mk (shut_bool Tryd.underlying4 _) trodAll_mk0)) (fun sp _ => (trodAll_cons_mk (shut_int Tryd.underlying5 w0) (trodAll_cons_mk (shut_agg3 (y0 := (.lit (.int .i64 a10), [])) (y1 := (.lit (.int .i64 a11), [])) (y2 := (.lit (.int .i64 a12), [])) Tryd.underlying23 (by kernel_rfl) cells_Date ⟨1, by simp [DataW.trod, Tryd.underlying3, w10]⟩ ⟨1, by simp [DataW.trod, Tryd.underlying3, w11]⟩ ⟨1, by simp [DataW.trod, Tryd.underlying3, w12]⟩) trodAll_mk0))) (fun _ _ => rfl) rfl
    hg (ok_one (by kernel_rfl) rfl (okWide_bool_mk Tryd.underlying4 _))⟩
theorem CivilConvert_laid (os : Os) : laidMet Tryd.prog Rows.civilConvertRow.laid ((laidWorld os).forCall (fun _ _ => 0) ⟨#[], #[.int .u8 0, .agg #[.int .i64 0, .int .i64 0, .int .i64 0]], []⟩).memory :=
  laidMet_of_run' 8 (by kernel_rfl) (by kernel_rfl)
theorem CivilConvert_reads (os : Os) {H : Type} (enc : TypeId × Value → H) : ∃ places, DataW.whole enc Tryd.prog ((laidWorld os).forCall (fun _ _ => 0) ⟨#[], #[.int .u8 0, .agg #[.int .i64 0, .int .i64 0, .int .i64 0]], []⟩).memory Tryd.f10.params.toList Rows.civilConvertSpec.vars false (#[.int .u8 0, .agg #[.int .i64 0, .int .i64 0, .int .i64 0]] : Array Value).toList 8 = some ([.lit (.int .u8 0), .agg [.lit (.int .i64 0), .lit (.int .i64 0), .lit (.int .i64 0)]], [], places) :=
  ⟨[], by kernel_rfl⟩
set_option maxRecDepth 100000 in
theorem CivilConvert_lifted (os : Os) (started : os.Started) (H : Type) (enc : TypeId × Value → H) (F : Stop.Interp) :
    ReturnsInHanded {} Tryd.checked os 10 .any ((OpenSpec.ofChange Rows.civilConvertSpec).preRow enc Tryd.prog Tryd.f10 Rows.civilConvertRow.domain false Rows.civilConvertRow.laid) (((OpenSpec.ofChange Rows.civilConvertSpec).at F).post enc Tryd.prog Tryd.f10 false true false false) := by
  obtain ⟨places, hx⟩ := CivilConvert_reads os enc
  refine returnsInHanded_of_row (C := Tryd.checked) (s := OpenSpec.ofChange Rows.civilConvertSpec) own_knob started (by kernel_rfl) Tryd.func10
    (witness_row_at (enc := enc) (C := Tryd.checked) false (laidWorld os) #[.int .u8 0, .agg #[.int .i64 0, .int .i64 0, .int .i64 0]] rfl (by kernel_rfl) (by kernel_rfl) (by kernel_rfl)
      (OpenSpec.preRow_of_cond 8 hx (by kernel_rfl) (fun k hk => by cases hk) (by kernel_rfl) (CivilConvert_laid os))) ?_
  intro W base args ds gs before hval hW _ _ _ hL _ _
  exact CivilConvert_contract H enc W base args ds gs before hval hW hL
theorem CivilConvert_said : Rows.CivilConvertSaid :=
  OpenClaim.holds_of_cond 10 Tryd.f10 rfl rfl rfl rfl rfl rfl rfl ⟨rfl, rfl, rfl, rfl, rfl⟩ rfl rfl rfl rfl rfl (by kernel_rfl) Tryd.func10 (by kernel_rfl)
    (of_decide_eq_true (by kernel_rfl)) (by unfold Func.isWrapper; first | (rw [if_pos (by decide +kernel)]; kernel_rfl) | (rw [if_neg (by decide +kernel)]; exact ⟨rfl, rfl⟩))
    (fun os started H enc _ F => by rw [OpenClaim.pre_eq_preRow]; exact CivilConvert_lifted os started H enc F)
theorem CivilConvert_plain (f : FuncId) (fn : Func) (hf : Tryd.pinned.checked.prog.funcNamed "computus/computuslaw05.CivilConvert" = some f) (hfn : Tryd.pinned.checked.prog.funcs[f]? = some fn) :
    false = Tryd.pinned.checked.prog.looks [] ∧ ∀ (j : Nat) t, fn.params[j]? = some t → Tryd.pinned.checked.prog.wantsStandIn t = false := by
  obtain rfl : f = 10 := Option.some.inj ((show Tryd.prog.funcNamed "computus/computuslaw05.CivilConvert" = some 10 by kernel_rfl).symm.trans hf) |>.symm
  obtain rfl : fn = Tryd.f10 := (Option.some.inj (Tryd.func10.symm.trans hfn)).symm
  refine ⟨by kernel_rfl, fun j t ht => ?_⟩
  rw [Tryd.params10] at ht
  have hm : t ∈ [5, 23] := by simpa using Array.mem_of_getElem? ht
  have hall : ([5, 23].all fun u => !Tryd.prog.wantsStandIn u) = true := by kernel_rfl
  exact (show Tryd.prog.wantsStandIn t = false by simpa using List.all_eq_true.1 hall t hm)
theorem CivilConvert_proved : Rows.CivilConvertCardSaid :=
  Claim7.holds_tied_plain_at .later [] _ _ _ _ CivilConvert_said (fun _ h => by cases h) (by kernel_rfl) (fun _ h => by cases h) civilConvert_row_tie rfl ⟨rfl, rfl⟩ (by kernel_rfl) rfl CivilConvert_plain (by kernel_rfl)
#print axioms CivilConvert_proved
end Go.Proofs.YtcfgiboknkkheaaDoor

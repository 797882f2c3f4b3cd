/- 'Rows.CivilYearsCardSaid': for both calendars, every date and day, the days of a year are numbered from 1 to its length, and each date is recovered from its number. No condition but that julian.lengths lies as the program's text lays it, which the card ties. -/
import Derived.Test.YtcfgiboknkkheaaDoorCivAw
set_option linter.unusedSimpArgs false
set_option linter.unusedVariables false
set_option linter.unusedSectionVars false
namespace Go.Proofs.YtcfgiboknkkheaaDoor
open Go.ChangeShapes Go.WideShapes Go.ChangeAt Go.RowKit Go.Joins
set_option maxHeartbeats 1000000

theorem fy_of_date (k y m d : Int) (hk : IsCal k) (h : OkD k y m d) : FyRel k y (oyN k y m d) y m d 0 ∧ oyN k y m d = cum (lp k y) m + d ∧ 1 ≤ oyN k y m d ∧ oyN k y m d ≤ ylN k y ∧ ylN k y ≤ 366 ∧ ylE k y = 0 ∧ cE k y m d = 0 := by
  obtain ⟨p1, p2⟩ := c_ok k y m d hk h
  have e : oyN k y m d = cum (lp k y) m + d := if_pos p2
  obtain ⟨h1, h2, h3, h4, h5, h6⟩ := id h
  have hm := cum_mono (lp k y) m 13 h3 (by omega) (by omega)
  have hc := cum_bounds (lp k y) m h3 (by omega)
  rw [cum_13] at hm
  rcases yl_cases k y with ⟨a, _⟩ | ⟨_, a, _⟩ | ⟨_, _, _, a, b⟩
  · exact absurd hk a
  · omega
  · have hl : (if lp k y then (1 : Int) else 0) ≤ 1 := by split <;> omega
    exact ⟨.inr (.inr ⟨b, by omega, by omega, rfl, h, e.symm, rfl⟩), e, by omega, by omega, by omega, b, p2⟩
theorem fy_err (k y n x1 x2 x3 e : Int) (h : FyRel k y n x1 x2 x3 e) : (e = 0 ∧ x1 = y ∧ OkD k y x2 x3 ∧ oyN k y x2 x3 = n ∧ cE k y x2 x3 = 0) ∨ (1 ≤ e ∧ e ≤ 3) := by
  rcases h with ⟨a, _, _, _, rfl⟩ | ⟨_, _, _, _, _, rfl⟩ | ⟨a, _, _, rfl, ho, hs, rfl⟩
  · rcases yl_cases k y with ⟨_, _, b⟩ | ⟨_, _, _, b⟩ | ⟨_, _, _, _, b⟩ <;> omega
  · omega
  · have hk : IsCal k := by
      rcases yl_cases k x1 with ⟨_, _, b⟩ | ⟨_, _, _, b⟩ | ⟨b, _⟩
      · omega
      · omega
      · exact b
    obtain ⟨_, b, _, _, _, _, g⟩ := fy_of_date k x1 x2 x3 hk ho
    exact .inl ⟨rfl, rfl, ho, b.trans hs, g⟩
theorem CivilYears_walk (c y m d n : Int) (_bc : 0 ≤ c ∧ c ≤ 255) (_by : -9223372036854775808 ≤ y ∧ y ≤ 9223372036854775807) (_bm : -9223372036854775808 ≤ m ∧ m ≤ 9223372036854775807) (_bd : -9223372036854775808 ≤ d ∧ d ≤ 9223372036854775807) (_bn : -9223372036854775808 ≤ n ∧ n ≤ 9223372036854775807) (w : World) (hT : Tab w) :
    Calls Tryd.prog 3 #[.int .u8 c, .agg #[.int .i64 y, .int .i64 m, .int .i64 d], .int .i64 n] w fun e w' => e = .returned (.bool true) ∧ Kept w w' := by
  clear _by _bm _bd
  obtain ⟨c1, c2⟩ := _bc
  have KN := Lib.hid _bn
  clear _bn
  have KT := Lib.hid (fun w' (k : Kept w w') => hT.kept k)
  clear hT
  rcases (show c % 2 = 0 ∨ c % 2 = 1 by omega) with hc | hc
  · obtain ⟨x1, x2, x3, e, hfy⟩ := fy_some 1 y n
    have HF := Lib.hid hfy
    by_cases ho : OkD 1 y m d
    · obtain ⟨a1, a2, a3, a4, a5, a6, a7⟩ := fy_of_date 1 y m d (.inl rfl) ho
      have KO := Lib.hid (fun w hT => OfYear_all 1 y m d w hT)
      rw [a7] at KO
      have KY := Lib.hid (fun w hT => YearLength_all 1 y w hT)
      rw [a6] at KY
      have KF := Lib.hid (fun w hT => FromYear_all 1 y (oyN 1 y m d) y m d 0 w hT a1 (by omega))
      clear a1 a2 a6 a7 ho
      rcases fy_err _ _ _ _ _ _ _ hfy with ⟨rfl, rfl, g1, g2, g3⟩ | ⟨g, _⟩
      · have KP := Lib.hid (fun w hT => OfYear_all 1 x1 x2 x3 w hT)
        rw [g2, g3] at KP
        clear g1 g2 g3 hfy
        go_enter Tryd.func3, Tryd.ntmps3
        go_wp2_with fail
        (go_at_call 13; refine (Civ_awake _ (KT.out _ (by repeat (first | with_reducible exact Kept.refl _ | with_reducible assumption | with_reducible refine Kept.drew ?_ | with_reducible refine Kept.drewN ?_ _ | with_reducible refine Kept.alloc ?_ _ | (with_reducible refine Kept.setCell ?_ (by first | exact Nat.le_refl _ | omega | (simp; done) | (simp; omega)) _) | (with_reducible refine Kept.trans ?_ (by with_reducible assumption)))))).mono ?_; rintro e w1 ⟨rfl, hk1⟩)
        have hB1_1 := hk1
        obtain ⟨hc1_1, hf1_1⟩ := kept_cells hB1_1
        have hz1_0_1 : w.heap.size < w1.heap.size := by have := hB1_1.size; simp at this; omega
        go_wp2_with fail
        (go_at_call 14; refine (KO.out _ (KT.out _ (by repeat (first | with_reducible exact Kept.refl _ | with_reducible assumption | with_reducible refine Kept.drew ?_ | with_reducible refine Kept.drewN ?_ _ | with_reducible refine Kept.alloc ?_ _ | (with_reducible refine Kept.setCell ?_ (by first | exact Nat.le_refl _ | omega | (simp; done) | (simp; omega)) _) | (with_reducible refine Kept.trans ?_ (by with_reducible assumption)))))).mono ?_; rintro e w2 ⟨rfl, hk2⟩)
        have hB1_2 := Kept.trans hB1_1 hk2
        obtain ⟨hc1_2, hf1_2⟩ := kept_cells hB1_2
        have hz1_0_2 : w.heap.size < w2.heap.size := by have := hB1_2.size; simp at this; omega
        go_wp2_with fail
        (go_at_call 15; refine (KF.out _ (KT.out _ (by repeat (first | with_reducible exact Kept.refl _ | with_reducible assumption | with_reducible refine Kept.drew ?_ | with_reducible refine Kept.drewN ?_ _ | with_reducible refine Kept.alloc ?_ _ | (with_reducible refine Kept.setCell ?_ (by first | exact Nat.le_refl _ | omega | (simp; done) | (simp; omega)) _) | (with_reducible refine Kept.trans ?_ (by with_reducible assumption)))))).mono ?_; rintro e w3 ⟨rfl, hk3⟩)
        have hB1_3 := Kept.trans hB1_2 hk3
        obtain ⟨hc1_3, hf1_3⟩ := kept_cells hB1_3
        have hz1_0_3 : w.heap.size < w3.heap.size := by have := hB1_3.size; simp at this; omega
        go_wp2_with fail
        (go_at_call 16; refine (KY.out _ (KT.out _ (by repeat (first | with_reducible exact Kept.refl _ | with_reducible assumption | with_reducible refine Kept.drew ?_ | with_reducible refine Kept.drewN ?_ _ | with_reducible refine Kept.alloc ?_ _ | (with_reducible refine Kept.setCell ?_ (by first | exact Nat.le_refl _ | omega | (simp; done) | (simp; omega)) _) | (with_reducible refine Kept.trans ?_ (by with_reducible assumption)))))).mono ?_; rintro e w4 ⟨rfl, hk4⟩)
        have hB1_4 := Kept.trans (Kept.alloc hB1_3 _) hk4
        have hB4_4 := hk4
        obtain ⟨hc1_4, hf1_4⟩ := kept_cells hB1_4
        have hz1_0_4 : w.heap.size < w4.heap.size := by have := hB1_4.size; simp at this; omega
        obtain ⟨hc4_4, hf4_4⟩ := kept_cells hB4_4
        have hz4_0_4 : w3.heap.size < w4.heap.size := by have := hB4_4.size; simp at this; omega
        go_wp2_with fail
        (go_at_call 15; refine (FromYear_all _ _ _ _ _ _ _ _ (KT.out _ (by repeat (first | with_reducible exact Kept.refl _ | with_reducible assumption | with_reducible refine Kept.drew ?_ | with_reducible refine Kept.drewN ?_ _ | with_reducible refine Kept.alloc ?_ _ | (with_reducible refine Kept.setCell ?_ (by first | exact Nat.le_refl _ | omega | (simp; done) | (simp; omega)) _) | (with_reducible refine Kept.trans ?_ (by with_reducible assumption))))) HF.out KN.out).mono ?_; rintro e w5 ⟨rfl, hk5⟩)
        have hB1_5 := Kept.trans hB1_4 hk5
        have hB4_5 := Kept.trans hB4_4 hk5
        obtain ⟨hc1_5, hf1_5⟩ := kept_cells hB1_5
        have hz1_0_5 : w.heap.size < w5.heap.size := by have := hB1_5.size; simp at this; omega
        obtain ⟨hc4_5, hf4_5⟩ := kept_cells hB4_5
        have hz4_0_5 : w3.heap.size < w5.heap.size := by have := hB4_5.size; simp at this; omega
        go_wp2_with fail
        (go_at_call 14; refine (KP.out _ (KT.out _ (by repeat (first | with_reducible exact Kept.refl _ | with_reducible assumption | with_reducible refine Kept.drew ?_ | with_reducible refine Kept.drewN ?_ _ | with_reducible refine Kept.alloc ?_ _ | (with_reducible refine Kept.setCell ?_ (by first | exact Nat.le_refl _ | omega | (simp; done) | (simp; omega)) _) | (with_reducible refine Kept.trans ?_ (by with_reducible assumption)))))).mono ?_; rintro e w6 ⟨rfl, hk6⟩)
        have hB1_6 := Kept.trans (Kept.alloc hB1_5 _) hk6
        have hB4_6 := Kept.trans (Kept.alloc hB4_5 _) hk6
        have hB6_6 := hk6
        obtain ⟨hc1_6, hf1_6⟩ := kept_cells hB1_6
        have hz1_0_6 : w.heap.size < w6.heap.size := by have := hB1_6.size; simp at this; omega
        obtain ⟨hc4_6, hf4_6⟩ := kept_cells hB4_6
        have hz4_0_6 : w3.heap.size < w6.heap.size := by have := hB4_6.size; simp at this; omega
        obtain ⟨hc6_6, hf6_6⟩ := kept_cells hB6_6
        have hz6_0_6 : w5.heap.size < w6.heap.size := by have := hB6_6.size; simp at this; omega
        go_wp2
        go_ret
        exact ⟨rfl, (by repeat (first | with_reducible exact Kept.refl _ | with_reducible assumption | with_reducible refine Kept.drew ?_ | with_reducible refine Kept.drewN ?_ _ | with_reducible refine Kept.alloc ?_ _ | (with_reducible refine Kept.setCell ?_ (by first | exact Nat.le_refl _ | omega | (simp; done) | (simp; omega)) _) | (with_reducible refine Kept.trans ?_ (by with_reducible assumption))))⟩
      · clear hfy
        go_enter Tryd.func3, Tryd.ntmps3
        go_wp2_with fail
        (go_at_call 13; refine (Civ_awake _ (KT.out _ (by repeat (first | with_reducible exact Kept.refl _ | with_reducible assumption | with_reducible refine Kept.drew ?_ | with_reducible refine Kept.drewN ?_ _ | with_reducible refine Kept.alloc ?_ _ | (with_reducible refine Kept.setCell ?_ (by first | exact Nat.le_refl _ | omega | (simp; done) | (simp; omega)) _) | (with_reducible refine Kept.trans ?_ (by with_reducible assumption)))))).mono ?_; rintro e w1 ⟨rfl, hk1⟩)
        have hB1_1 := hk1
        obtain ⟨hc1_1, hf1_1⟩ := kept_cells hB1_1
        have hz1_0_1 : w.heap.size < w1.heap.size := by have := hB1_1.size; simp at this; omega
        go_wp2_with fail
        (go_at_call 14; refine (KO.out _ (KT.out _ (by repeat (first | with_reducible exact Kept.refl _ | with_reducible assumption | with_reducible refine Kept.drew ?_ | with_reducible refine Kept.drewN ?_ _ | with_reducible refine Kept.alloc ?_ _ | (with_reducible refine Kept.setCell ?_ (by first | exact Nat.le_refl _ | omega | (simp; done) | (simp; omega)) _) | (with_reducible refine Kept.trans ?_ (by with_reducible assumption)))))).mono ?_; rintro e w2 ⟨rfl, hk2⟩)
        have hB1_2 := Kept.trans hB1_1 hk2
        obtain ⟨hc1_2, hf1_2⟩ := kept_cells hB1_2
        have hz1_0_2 : w.heap.size < w2.heap.size := by have := hB1_2.size; simp at this; omega
        go_wp2_with fail
        (go_at_call 15; refine (KF.out _ (KT.out _ (by repeat (first | with_reducible exact Kept.refl _ | with_reducible assumption | with_reducible refine Kept.drew ?_ | with_reducible refine Kept.drewN ?_ _ | with_reducible refine Kept.alloc ?_ _ | (with_reducible refine Kept.setCell ?_ (by first | exact Nat.le_refl _ | omega | (simp; done) | (simp; omega)) _) | (with_reducible refine Kept.trans ?_ (by with_reducible assumption)))))).mono ?_; rintro e w3 ⟨rfl, hk3⟩)
        have hB1_3 := Kept.trans hB1_2 hk3
        obtain ⟨hc1_3, hf1_3⟩ := kept_cells hB1_3
        have hz1_0_3 : w.heap.size < w3.heap.size := by have := hB1_3.size; simp at this; omega
        go_wp2_with fail
        (go_at_call 16; refine (KY.out _ (KT.out _ (by repeat (first | with_reducible exact Kept.refl _ | with_reducible assumption | with_reducible refine Kept.drew ?_ | with_reducible refine Kept.drewN ?_ _ | with_reducible refine Kept.alloc ?_ _ | (with_reducible refine Kept.setCell ?_ (by first | exact Nat.le_refl _ | omega | (simp; done) | (simp; omega)) _) | (with_reducible refine Kept.trans ?_ (by with_reducible assumption)))))).mono ?_; rintro e w4 ⟨rfl, hk4⟩)
        have hB1_4 := Kept.trans (Kept.alloc hB1_3 _) hk4
        have hB4_4 := hk4
        obtain ⟨hc1_4, hf1_4⟩ := kept_cells hB1_4
        have hz1_0_4 : w.heap.size < w4.heap.size := by have := hB1_4.size; simp at this; omega
        obtain ⟨hc4_4, hf4_4⟩ := kept_cells hB4_4
        have hz4_0_4 : w3.heap.size < w4.heap.size := by have := hB4_4.size; simp at this; omega
        go_wp2_with fail
        (go_at_call 15; refine (FromYear_all _ _ _ _ _ _ _ _ (KT.out _ (by repeat (first | with_reducible exact Kept.refl _ | with_reducible assumption | with_reducible refine Kept.drew ?_ | with_reducible refine Kept.drewN ?_ _ | with_reducible refine Kept.alloc ?_ _ | (with_reducible refine Kept.setCell ?_ (by first | exact Nat.le_refl _ | omega | (simp; done) | (simp; omega)) _) | (with_reducible refine Kept.trans ?_ (by with_reducible assumption))))) HF.out KN.out).mono ?_; rintro e w5 ⟨rfl, hk5⟩)
        have hB1_5 := Kept.trans hB1_4 hk5
        have hB4_5 := Kept.trans hB4_4 hk5
        obtain ⟨hc1_5, hf1_5⟩ := kept_cells hB1_5
        have hz1_0_5 : w.heap.size < w5.heap.size := by have := hB1_5.size; simp at this; omega
        obtain ⟨hc4_5, hf4_5⟩ := kept_cells hB4_5
        have hz4_0_5 : w3.heap.size < w5.heap.size := by have := hB4_5.size; simp at this; omega
        go_wp2
        go_ret
        exact ⟨rfl, (by repeat (first | with_reducible exact Kept.refl _ | with_reducible assumption | with_reducible refine Kept.drew ?_ | with_reducible refine Kept.drewN ?_ _ | with_reducible refine Kept.alloc ?_ _ | (with_reducible refine Kept.setCell ?_ (by first | exact Nat.le_refl _ | omega | (simp; done) | (simp; omega)) _) | (with_reducible refine Kept.trans ?_ (by with_reducible assumption))))⟩
    · have hp : 1 ≤ cE 1 y m d := by
        rcases c_cases 1 y m d with ⟨_, p, _⟩ | ⟨_, p, _⟩
        · exact absurd p ho
        · exact p
      clear ho
      rcases fy_err _ _ _ _ _ _ _ hfy with ⟨rfl, rfl, g1, g2, g3⟩ | ⟨g, _⟩
      · have KP := Lib.hid (fun w hT => OfYear_all 1 x1 x2 x3 w hT)
        rw [g2, g3] at KP
        clear g1 g2 g3 hfy
        go_enter Tryd.func3, Tryd.ntmps3
        go_wp2_with fail
        (go_at_call 13; refine (Civ_awake _ (KT.out _ (by repeat (first | with_reducible exact Kept.refl _ | with_reducible assumption | with_reducible refine Kept.drew ?_ | with_reducible refine Kept.drewN ?_ _ | with_reducible refine Kept.alloc ?_ _ | (with_reducible refine Kept.setCell ?_ (by first | exact Nat.le_refl _ | omega | (simp; done) | (simp; omega)) _) | (with_reducible refine Kept.trans ?_ (by with_reducible assumption)))))).mono ?_; rintro e w1 ⟨rfl, hk1⟩)
        have hB1_1 := hk1
        obtain ⟨hc1_1, hf1_1⟩ := kept_cells hB1_1
        have hz1_0_1 : w.heap.size < w1.heap.size := by have := hB1_1.size; simp at this; omega
        go_wp2_with fail
        (go_at_call 14; refine (OfYear_all _ _ _ _ _ (KT.out _ (by repeat (first | with_reducible exact Kept.refl _ | with_reducible assumption | with_reducible refine Kept.drew ?_ | with_reducible refine Kept.drewN ?_ _ | with_reducible refine Kept.alloc ?_ _ | (with_reducible refine Kept.setCell ?_ (by first | exact Nat.le_refl _ | omega | (simp; done) | (simp; omega)) _) | (with_reducible refine Kept.trans ?_ (by with_reducible assumption)))))).mono ?_; rintro e w2 ⟨rfl, hk2⟩)
        have hB1_2 := Kept.trans hB1_1 hk2
        obtain ⟨hc1_2, hf1_2⟩ := kept_cells hB1_2
        have hz1_0_2 : w.heap.size < w2.heap.size := by have := hB1_2.size; simp at this; omega
        go_wp2_with fail
        (go_at_call 15; refine (FromYear_all _ _ _ _ _ _ _ _ (KT.out _ (by repeat (first | with_reducible exact Kept.refl _ | with_reducible assumption | with_reducible refine Kept.drew ?_ | with_reducible refine Kept.drewN ?_ _ | with_reducible refine Kept.alloc ?_ _ | (with_reducible refine Kept.setCell ?_ (by first | exact Nat.le_refl _ | omega | (simp; done) | (simp; omega)) _) | (with_reducible refine Kept.trans ?_ (by with_reducible assumption))))) HF.out KN.out).mono ?_; rintro e w3 ⟨rfl, hk3⟩)
        have hB1_3 := Kept.trans hB1_2 hk3
        obtain ⟨hc1_3, hf1_3⟩ := kept_cells hB1_3
        have hz1_0_3 : w.heap.size < w3.heap.size := by have := hB1_3.size; simp at this; omega
        go_wp2_with fail
        (go_at_call 14; refine (KP.out _ (KT.out _ (by repeat (first | with_reducible exact Kept.refl _ | with_reducible assumption | with_reducible refine Kept.drew ?_ | with_reducible refine Kept.drewN ?_ _ | with_reducible refine Kept.alloc ?_ _ | (with_reducible refine Kept.setCell ?_ (by first | exact Nat.le_refl _ | omega | (simp; done) | (simp; omega)) _) | (with_reducible refine Kept.trans ?_ (by with_reducible assumption)))))).mono ?_; rintro e w4 ⟨rfl, hk4⟩)
        have hB1_4 := Kept.trans (Kept.alloc hB1_3 _) hk4
        have hB4_4 := hk4
        obtain ⟨hc1_4, hf1_4⟩ := kept_cells hB1_4
        have hz1_0_4 : w.heap.size < w4.heap.size := by have := hB1_4.size; simp at this; omega
        obtain ⟨hc4_4, hf4_4⟩ := kept_cells hB4_4
        have hz4_0_4 : w3.heap.size < w4.heap.size := by have := hB4_4.size; simp at this; omega
        go_wp2
        go_ret
        exact ⟨rfl, (by repeat (first | with_reducible exact Kept.refl _ | with_reducible assumption | with_reducible refine Kept.drew ?_ | with_reducible refine Kept.drewN ?_ _ | with_reducible refine Kept.alloc ?_ _ | (with_reducible refine Kept.setCell ?_ (by first | exact Nat.le_refl _ | omega | (simp; done) | (simp; omega)) _) | (with_reducible refine Kept.trans ?_ (by with_reducible assumption))))⟩
      · clear hfy
        go_enter Tryd.func3, Tryd.ntmps3
        go_wp2_with fail
        (go_at_call 13; refine (Civ_awake _ (KT.out _ (by repeat (first | with_reducible exact Kept.refl _ | with_reducible assumption | with_reducible refine Kept.drew ?_ | with_reducible refine Kept.drewN ?_ _ | with_reducible refine Kept.alloc ?_ _ | (with_reducible refine Kept.setCell ?_ (by first | exact Nat.le_refl _ | omega | (simp; done) | (simp; omega)) _) | (with_reducible refine Kept.trans ?_ (by with_reducible assumption)))))).mono ?_; rintro e w1 ⟨rfl, hk1⟩)
        have hB1_1 := hk1
        obtain ⟨hc1_1, hf1_1⟩ := kept_cells hB1_1
        have hz1_0_1 : w.heap.size < w1.heap.size := by have := hB1_1.size; simp at this; omega
        go_wp2_with fail
        (go_at_call 14; refine (OfYear_all _ _ _ _ _ (KT.out _ (by repeat (first | with_reducible exact Kept.refl _ | with_reducible assumption | with_reducible refine Kept.drew ?_ | with_reducible refine Kept.drewN ?_ _ | with_reducible refine Kept.alloc ?_ _ | (with_reducible refine Kept.setCell ?_ (by first | exact Nat.le_refl _ | omega | (simp; done) | (simp; omega)) _) | (with_reducible refine Kept.trans ?_ (by with_reducible assumption)))))).mono ?_; rintro e w2 ⟨rfl, hk2⟩)
        have hB1_2 := Kept.trans hB1_1 hk2
        obtain ⟨hc1_2, hf1_2⟩ := kept_cells hB1_2
        have hz1_0_2 : w.heap.size < w2.heap.size := by have := hB1_2.size; simp at this; omega
        go_wp2_with fail
        (go_at_call 15; refine (FromYear_all _ _ _ _ _ _ _ _ (KT.out _ (by repeat (first | with_reducible exact Kept.refl _ | with_reducible assumption | with_reducible refine Kept.drew ?_ | with_reducible refine Kept.drewN ?_ _ | with_reducible refine Kept.alloc ?_ _ | (with_reducible refine Kept.setCell ?_ (by first | exact Nat.le_refl _ | omega | (simp; done) | (simp; omega)) _) | (with_reducible refine Kept.trans ?_ (by with_reducible assumption))))) HF.out KN.out).mono ?_; rintro e w3 ⟨rfl, hk3⟩)
        have hB1_3 := Kept.trans hB1_2 hk3
        obtain ⟨hc1_3, hf1_3⟩ := kept_cells hB1_3
        have hz1_0_3 : w.heap.size < w3.heap.size := by have := hB1_3.size; simp at this; omega
        go_wp2
        go_ret
        exact ⟨rfl, (by repeat (first | with_reducible exact Kept.refl _ | with_reducible assumption | with_reducible refine Kept.drew ?_ | with_reducible refine Kept.drewN ?_ _ | with_reducible refine Kept.alloc ?_ _ | (with_reducible refine Kept.setCell ?_ (by first | exact Nat.le_refl _ | omega | (simp; done) | (simp; omega)) _) | (with_reducible refine Kept.trans ?_ (by with_reducible assumption))))⟩
  · obtain ⟨x1, x2, x3, e, hfy⟩ := fy_some 2 y n
    have HF := Lib.hid hfy
    by_cases ho : OkD 2 y m d
    · obtain ⟨a1, a2, a3, a4, a5, a6, a7⟩ := fy_of_date 2 y m d (.inr rfl) ho
      have KO := Lib.hid (fun w hT => OfYear_all 2 y m d w hT)
      rw [a7] at KO
      have KY := Lib.hid (fun w hT => YearLength_all 2 y w hT)
      rw [a6] at KY
      have KF := Lib.hid (fun w hT => FromYear_all 2 y (oyN 2 y m d) y m d 0 w hT a1 (by omega))
      clear a1 a2 a6 a7 ho
      rcases fy_err _ _ _ _ _ _ _ hfy with ⟨rfl, rfl, g1, g2, g3⟩ | ⟨g, _⟩
      · have KP := Lib.hid (fun w hT => OfYear_all 2 x1 x2 x3 w hT)
        rw [g2, g3] at KP
        clear g1 g2 g3 hfy
        go_enter Tryd.func3, Tryd.ntmps3
        go_wp2_with fail
        (go_at_call 13; refine (Civ_awake _ (KT.out _ (by repeat (first | with_reducible exact Kept.refl _ | with_reducible assumption | with_reducible refine Kept.drew ?_ | with_reducible refine Kept.drewN ?_ _ | with_reducible refine Kept.alloc ?_ _ | (with_reducible refine Kept.setCell ?_ (by first | exact Nat.le_refl _ | omega | (simp; done) | (simp; omega)) _) | (with_reducible refine Kept.trans ?_ (by with_reducible assumption)))))).mono ?_; rintro e w1 ⟨rfl, hk1⟩)
        have hB1_1 := hk1
        obtain ⟨hc1_1, hf1_1⟩ := kept_cells hB1_1
        have hz1_0_1 : w.heap.size < w1.heap.size := by have := hB1_1.size; simp at this; omega
        go_wp2_with fail
        (go_at_call 14; refine (KO.out _ (KT.out _ (by repeat (first | with_reducible exact Kept.refl _ | with_reducible assumption | with_reducible refine Kept.drew ?_ | with_reducible refine Kept.drewN ?_ _ | with_reducible refine Kept.alloc ?_ _ | (with_reducible refine Kept.setCell ?_ (by first | exact Nat.le_refl _ | omega | (simp; done) | (simp; omega)) _) | (with_reducible refine Kept.trans ?_ (by with_reducible assumption)))))).mono ?_; rintro e w2 ⟨rfl, hk2⟩)
        have hB1_2 := Kept.trans hB1_1 hk2
        obtain ⟨hc1_2, hf1_2⟩ := kept_cells hB1_2
        have hz1_0_2 : w.heap.size < w2.heap.size := by have := hB1_2.size; simp at this; omega
        go_wp2_with fail
        (go_at_call 15; refine (KF.out _ (KT.out _ (by repeat (first | with_reducible exact Kept.refl _ | with_reducible assumption | with_reducible refine Kept.drew ?_ | with_reducible refine Kept.drewN ?_ _ | with_reducible refine Kept.alloc ?_ _ | (with_reducible refine Kept.setCell ?_ (by first | exact Nat.le_refl _ | omega | (simp; done) | (simp; omega)) _) | (with_reducible refine Kept.trans ?_ (by with_reducible assumption)))))).mono ?_; rintro e w3 ⟨rfl, hk3⟩)
        have hB1_3 := Kept.trans hB1_2 hk3
        obtain ⟨hc1_3, hf1_3⟩ := kept_cells hB1_3
        have hz1_0_3 : w.heap.size < w3.heap.size := by have := hB1_3.size; simp at this; omega
        go_wp2_with fail
        (go_at_call 16; refine (KY.out _ (KT.out _ (by repeat (first | with_reducible exact Kept.refl _ | with_reducible assumption | with_reducible refine Kept.drew ?_ | with_reducible refine Kept.drewN ?_ _ | with_reducible refine Kept.alloc ?_ _ | (with_reducible refine Kept.setCell ?_ (by first | exact Nat.le_refl _ | omega | (simp; done) | (simp; omega)) _) | (with_reducible refine Kept.trans ?_ (by with_reducible assumption)))))).mono ?_; rintro e w4 ⟨rfl, hk4⟩)
        have hB1_4 := Kept.trans (Kept.alloc hB1_3 _) hk4
        have hB4_4 := hk4
        obtain ⟨hc1_4, hf1_4⟩ := kept_cells hB1_4
        have hz1_0_4 : w.heap.size < w4.heap.size := by have := hB1_4.size; simp at this; omega
        obtain ⟨hc4_4, hf4_4⟩ := kept_cells hB4_4
        have hz4_0_4 : w3.heap.size < w4.heap.size := by have := hB4_4.size; simp at this; omega
        go_wp2_with fail
        (go_at_call 15; refine (FromYear_all _ _ _ _ _ _ _ _ (KT.out _ (by repeat (first | with_reducible exact Kept.refl _ | with_reducible assumption | with_reducible refine Kept.drew ?_ | with_reducible refine Kept.drewN ?_ _ | with_reducible refine Kept.alloc ?_ _ | (with_reducible refine Kept.setCell ?_ (by first | exact Nat.le_refl _ | omega | (simp; done) | (simp; omega)) _) | (with_reducible refine Kept.trans ?_ (by with_reducible assumption))))) HF.out KN.out).mono ?_; rintro e w5 ⟨rfl, hk5⟩)
        have hB1_5 := Kept.trans hB1_4 hk5
        have hB4_5 := Kept.trans hB4_4 hk5
        obtain ⟨hc1_5, hf1_5⟩ := kept_cells hB1_5
        have hz1_0_5 : w.heap.size < w5.heap.size := by have := hB1_5.size; simp at this; omega
        obtain ⟨hc4_5, hf4_5⟩ := kept_cells hB4_5
        have hz4_0_5 : w3.heap.size < w5.heap.size := by have := hB4_5.size; simp at this; omega
        go_wp2_with fail
        (go_at_call 14; refine (KP.out _ (KT.out _ (by repeat (first | with_reducible exact Kept.refl _ | with_reducible assumption | with_reducible refine Kept.drew ?_ | with_reducible refine Kept.drewN ?_ _ | with_reducible refine Kept.alloc ?_ _ | (with_reducible refine Kept.setCell ?_ (by first | exact Nat.le_refl _ | omega | (simp; done) | (simp; omega)) _) | (with_reducible refine Kept.trans ?_ (by with_reducible assumption)))))).mono ?_; rintro e w6 ⟨rfl, hk6⟩)
        have hB1_6 := Kept.trans (Kept.alloc hB1_5 _) hk6
        have hB4_6 := Kept.trans (Kept.alloc hB4_5 _) hk6
        have hB6_6 := hk6
        obtain ⟨hc1_6, hf1_6⟩ := kept_cells hB1_6
        have hz1_0_6 : w.heap.size < w6.heap.size := by have := hB1_6.size; simp at this; omega
        obtain ⟨hc4_6, hf4_6⟩ := kept_cells hB4_6
        have hz4_0_6 : w3.heap.size < w6.heap.size := by have := hB4_6.size; simp at this; omega
        obtain ⟨hc6_6, hf6_6⟩ := kept_cells hB6_6
        have hz6_0_6 : w5.heap.size < w6.heap.size := by have := hB6_6.size; simp at this; omega
        go_wp2
        go_ret
        exact ⟨rfl, (by repeat (first | with_reducible exact Kept.refl _ | with_reducible assumption | with_reducible refine Kept.drew ?_ | with_reducible refine Kept.drewN ?_ _ | with_reducible refine Kept.alloc ?_ _ | (with_reducible refine Kept.setCell ?_ (by first | exact Nat.le_refl _ | omega | (simp; done) | (simp; omega)) _) | (with_reducible refine Kept.trans ?_ (by with_reducible assumption))))⟩
      · clear hfy
        go_enter Tryd.func3, Tryd.ntmps3
        go_wp2_with fail
        (go_at_call 13; refine (Civ_awake _ (KT.out _ (by repeat (first | with_reducible exact Kept.refl _ | with_reducible assumption | with_reducible refine Kept.drew ?_ | with_reducible refine Kept.drewN ?_ _ | with_reducible refine Kept.alloc ?_ _ | (with_reducible refine Kept.setCell ?_ (by first | exact Nat.le_refl _ | omega | (simp; done) | (simp; omega)) _) | (with_reducible refine Kept.trans ?_ (by with_reducible assumption)))))).mono ?_; rintro e w1 ⟨rfl, hk1⟩)
        have hB1_1 := hk1
        obtain ⟨hc1_1, hf1_1⟩ := kept_cells hB1_1
        have hz1_0_1 : w.heap.size < w1.heap.size := by have := hB1_1.size; simp at this; omega
        go_wp2_with fail
        (go_at_call 14; refine (KO.out _ (KT.out _ (by repeat (first | with_reducible exact Kept.refl _ | with_reducible assumption | with_reducible refine Kept.drew ?_ | with_reducible refine Kept.drewN ?_ _ | with_reducible refine Kept.alloc ?_ _ | (with_reducible refine Kept.setCell ?_ (by first | exact Nat.le_refl _ | omega | (simp; done) | (simp; omega)) _) | (with_reducible refine Kept.trans ?_ (by with_reducible assumption)))))).mono ?_; rintro e w2 ⟨rfl, hk2⟩)
        have hB1_2 := Kept.trans hB1_1 hk2
        obtain ⟨hc1_2, hf1_2⟩ := kept_cells hB1_2
        have hz1_0_2 : w.heap.size < w2.heap.size := by have := hB1_2.size; simp at this; omega
        go_wp2_with fail
        (go_at_call 15; refine (KF.out _ (KT.out _ (by repeat (first | with_reducible exact Kept.refl _ | with_reducible assumption | with_reducible refine Kept.drew ?_ | with_reducible refine Kept.drewN ?_ _ | with_reducible refine Kept.alloc ?_ _ | (with_reducible refine Kept.setCell ?_ (by first | exact Nat.le_refl _ | omega | (simp; done) | (simp; omega)) _) | (with_reducible refine Kept.trans ?_ (by with_reducible assumption)))))).mono ?_; rintro e w3 ⟨rfl, hk3⟩)
        have hB1_3 := Kept.trans hB1_2 hk3
        obtain ⟨hc1_3, hf1_3⟩ := kept_cells hB1_3
        have hz1_0_3 : w.heap.size < w3.heap.size := by have := hB1_3.size; simp at this; omega
        go_wp2_with fail
        (go_at_call 16; refine (KY.out _ (KT.out _ (by repeat (first | with_reducible exact Kept.refl _ | with_reducible assumption | with_reducible refine Kept.drew ?_ | with_reducible refine Kept.drewN ?_ _ | with_reducible refine Kept.alloc ?_ _ | (with_reducible refine Kept.setCell ?_ (by first | exact Nat.le_refl _ | omega | (simp; done) | (simp; omega)) _) | (with_reducible refine Kept.trans ?_ (by with_reducible assumption)))))).mono ?_; rintro e w4 ⟨rfl, hk4⟩)
        have hB1_4 := Kept.trans (Kept.alloc hB1_3 _) hk4
        have hB4_4 := hk4
        obtain ⟨hc1_4, hf1_4⟩ := kept_cells hB1_4
        have hz1_0_4 : w.heap.size < w4.heap.size := by have := hB1_4.size; simp at this; omega
        obtain ⟨hc4_4, hf4_4⟩ := kept_cells hB4_4
        have hz4_0_4 : w3.heap.size < w4.heap.size := by have := hB4_4.size; simp at this; omega
        go_wp2_with fail
        (go_at_call 15; refine (FromYear_all _ _ _ _ _ _ _ _ (KT.out _ (by repeat (first | with_reducible exact Kept.refl _ | with_reducible assumption | with_reducible refine Kept.drew ?_ | with_reducible refine Kept.drewN ?_ _ | with_reducible refine Kept.alloc ?_ _ | (with_reducible refine Kept.setCell ?_ (by first | exact Nat.le_refl _ | omega | (simp; done) | (simp; omega)) _) | (with_reducible refine Kept.trans ?_ (by with_reducible assumption))))) HF.out KN.out).mono ?_; rintro e w5 ⟨rfl, hk5⟩)
        have hB1_5 := Kept.trans hB1_4 hk5
        have hB4_5 := Kept.trans hB4_4 hk5
        obtain ⟨hc1_5, hf1_5⟩ := kept_cells hB1_5
        have hz1_0_5 : w.heap.size < w5.heap.size := by have := hB1_5.size; simp at this; omega
        obtain ⟨hc4_5, hf4_5⟩ := kept_cells hB4_5
        have hz4_0_5 : w3.heap.size < w5.heap.size := by have := hB4_5.size; simp at this; omega
        go_wp2
        go_ret
        exact ⟨rfl, (by repeat (first | with_reducible exact Kept.refl _ | with_reducible assumption | with_reducible refine Kept.drew ?_ | with_reducible refine Kept.drewN ?_ _ | with_reducible refine Kept.alloc ?_ _ | (with_reducible refine Kept.setCell ?_ (by first | exact Nat.le_refl _ | omega | (simp; done) | (simp; omega)) _) | (with_reducible refine Kept.trans ?_ (by with_reducible assumption))))⟩
    · have hp : 1 ≤ cE 2 y m d := by
        rcases c_cases 2 y m d with ⟨_, p, _⟩ | ⟨_, p, _⟩
        · exact absurd p ho
        · exact p
      clear ho
      rcases fy_err _ _ _ _ _ _ _ hfy with ⟨rfl, rfl, g1, g2, g3⟩ | ⟨g, _⟩
      · have KP := Lib.hid (fun w hT => OfYear_all 2 x1 x2 x3 w hT)
        rw [g2, g3] at KP
        clear g1 g2 g3 hfy
        go_enter Tryd.func3, Tryd.ntmps3
        go_wp2_with fail
        (go_at_call 13; refine (Civ_awake _ (KT.out _ (by repeat (first | with_reducible exact Kept.refl _ | with_reducible assumption | with_reducible refine Kept.drew ?_ | with_reducible refine Kept.drewN ?_ _ | with_reducible refine Kept.alloc ?_ _ | (with_reducible refine Kept.setCell ?_ (by first | exact Nat.le_refl _ | omega | (simp; done) | (simp; omega)) _) | (with_reducible refine Kept.trans ?_ (by with_reducible assumption)))))).mono ?_; rintro e w1 ⟨rfl, hk1⟩)
        have hB1_1 := hk1
        obtain ⟨hc1_1, hf1_1⟩ := kept_cells hB1_1
        have hz1_0_1 : w.heap.size < w1.heap.size := by have := hB1_1.size; simp at this; omega
        go_wp2_with fail
        (go_at_call 14; refine (OfYear_all _ _ _ _ _ (KT.out _ (by repeat (first | with_reducible exact Kept.refl _ | with_reducible assumption | with_reducible refine Kept.drew ?_ | with_reducible refine Kept.drewN ?_ _ | with_reducible refine Kept.alloc ?_ _ | (with_reducible refine Kept.setCell ?_ (by first | exact Nat.le_refl _ | omega | (simp; done) | (simp; omega)) _) | (with_reducible refine Kept.trans ?_ (by with_reducible assumption)))))).mono ?_; rintro e w2 ⟨rfl, hk2⟩)
        have hB1_2 := Kept.trans hB1_1 hk2
        obtain ⟨hc1_2, hf1_2⟩ := kept_cells hB1_2
        have hz1_0_2 : w.heap.size < w2.heap.size := by have := hB1_2.size; simp at this; omega
        go_wp2_with fail
        (go_at_call 15; refine (FromYear_all _ _ _ _ _ _ _ _ (KT.out _ (by repeat (first | with_reducible exact Kept.refl _ | with_reducible assumption | with_reducible refine Kept.drew ?_ | with_reducible refine Kept.drewN ?_ _ | with_reducible refine Kept.alloc ?_ _ | (with_reducible refine Kept.setCell ?_ (by first | exact Nat.le_refl _ | omega | (simp; done) | (simp; omega)) _) | (with_reducible refine Kept.trans ?_ (by with_reducible assumption))))) HF.out KN.out).mono ?_; rintro e w3 ⟨rfl, hk3⟩)
        have hB1_3 := Kept.trans hB1_2 hk3
        obtain ⟨hc1_3, hf1_3⟩ := kept_cells hB1_3
        have hz1_0_3 : w.heap.size < w3.heap.size := by have := hB1_3.size; simp at this; omega
        go_wp2_with fail
        (go_at_call 14; refine (KP.out _ (KT.out _ (by repeat (first | with_reducible exact Kept.refl _ | with_reducible assumption | with_reducible refine Kept.drew ?_ | with_reducible refine Kept.drewN ?_ _ | with_reducible refine Kept.alloc ?_ _ | (with_reducible refine Kept.setCell ?_ (by first | exact Nat.le_refl _ | omega | (simp; done) | (simp; omega)) _) | (with_reducible refine Kept.trans ?_ (by with_reducible assumption)))))).mono ?_; rintro e w4 ⟨rfl, hk4⟩)
        have hB1_4 := Kept.trans (Kept.alloc hB1_3 _) hk4
        have hB4_4 := hk4
        obtain ⟨hc1_4, hf1_4⟩ := kept_cells hB1_4
        have hz1_0_4 : w.heap.size < w4.heap.size := by have := hB1_4.size; simp at this; omega
        obtain ⟨hc4_4, hf4_4⟩ := kept_cells hB4_4
        have hz4_0_4 : w3.heap.size < w4.heap.size := by have := hB4_4.size; simp at this; omega
        go_wp2
        go_ret
        exact ⟨rfl, (by repeat (first | with_reducible exact Kept.refl _ | with_reducible assumption | with_reducible refine Kept.drew ?_ | with_reducible refine Kept.drewN ?_ _ | with_reducible refine Kept.alloc ?_ _ | (with_reducible refine Kept.setCell ?_ (by first | exact Nat.le_refl _ | omega | (simp; done) | (simp; omega)) _) | (with_reducible refine Kept.trans ?_ (by with_reducible assumption))))⟩
      · clear hfy
        go_enter Tryd.func3, Tryd.ntmps3
        go_wp2_with fail
        (go_at_call 13; refine (Civ_awake _ (KT.out _ (by repeat (first | with_reducible exact Kept.refl _ | with_reducible assumption | with_reducible refine Kept.drew ?_ | with_reducible refine Kept.drewN ?_ _ | with_reducible refine Kept.alloc ?_ _ | (with_reducible refine Kept.setCell ?_ (by first | exact Nat.le_refl _ | omega | (simp; done) | (simp; omega)) _) | (with_reducible refine Kept.trans ?_ (by with_reducible assumption)))))).mono ?_; rintro e w1 ⟨rfl, hk1⟩)
        have hB1_1 := hk1
        obtain ⟨hc1_1, hf1_1⟩ := kept_cells hB1_1
        have hz1_0_1 : w.heap.size < w1.heap.size := by have := hB1_1.size; simp at this; omega
        go_wp2_with fail
        (go_at_call 14; refine (OfYear_all _ _ _ _ _ (KT.out _ (by repeat (first | with_reducible exact Kept.refl _ | with_reducible assumption | with_reducible refine Kept.drew ?_ | with_reducible refine Kept.drewN ?_ _ | with_reducible refine Kept.alloc ?_ _ | (with_reducible refine Kept.setCell ?_ (by first | exact Nat.le_refl _ | omega | (simp; done) | (simp; omega)) _) | (with_reducible refine Kept.trans ?_ (by with_reducible assumption)))))).mono ?_; rintro e w2 ⟨rfl, hk2⟩)
        have hB1_2 := Kept.trans hB1_1 hk2
        obtain ⟨hc1_2, hf1_2⟩ := kept_cells hB1_2
        have hz1_0_2 : w.heap.size < w2.heap.size := by have := hB1_2.size; simp at this; omega
        go_wp2_with fail
        (go_at_call 15; refine (FromYear_all _ _ _ _ _ _ _ _ (KT.out _ (by repeat (first | with_reducible exact Kept.refl _ | with_reducible assumption | with_reducible refine Kept.drew ?_ | with_reducible refine Kept.drewN ?_ _ | with_reducible refine Kept.alloc ?_ _ | (with_reducible refine Kept.setCell ?_ (by first | exact Nat.le_refl _ | omega | (simp; done) | (simp; omega)) _) | (with_reducible refine Kept.trans ?_ (by with_reducible assumption))))) HF.out KN.out).mono ?_; rintro e w3 ⟨rfl, hk3⟩)
        have hB1_3 := Kept.trans hB1_2 hk3
        obtain ⟨hc1_3, hf1_3⟩ := kept_cells hB1_3
        have hz1_0_3 : w.heap.size < w3.heap.size := by have := hB1_3.size; simp at this; omega
        go_wp2
        go_ret
        exact ⟨rfl, (by repeat (first | with_reducible exact Kept.refl _ | with_reducible assumption | with_reducible refine Kept.drew ?_ | with_reducible refine Kept.drewN ?_ _ | with_reducible refine Kept.alloc ?_ _ | (with_reducible refine Kept.setCell ?_ (by first | exact Nat.le_refl _ | omega | (simp; done) | (simp; omega)) _) | (with_reducible refine Kept.trans ?_ (by with_reducible assumption))))⟩

set_option maxRecDepth 100000 in
theorem CivilYears_contract (H : Type) (enc : TypeId × Value → H) (W : World) (base : Nat) (args : Array Value) (ds gs : List (DataW H)) (before : List MemPlace)
    (hval : ∀ (j : Nat) t v, Tryd.f3.params[j]? = some t → args[j]? = some v → Value.okWide Tryd.prog W .any base t v)
    (hW : DataW.Whole enc Tryd.prog Tryd.f3.params.toList Rows.civilYearsSpec.vars false W args.toList ds gs before) (hL : laidMetH Tryd.prog Rows.civilYearsRow.laid W) :
    Calls Tryd.prog 3 args W fun e W' => ∃ v, e = .returned v ∧ Rows.civilYearsSpec.post enc Tryd.prog Tryd.f3 false true false false W args v W' := by
  have hW' := hW
  obtain ⟨p, q, hA0, hV, rfl, hfz, hnd⟩ := hW
  have hA : DataW.TrodAll enc Tryd.prog W 0 (fun _ => true) true Tryd.f3.params.toList args.toList ds p := hA0
  rw [Tryd.params3] at hA hval
  obtain ⟨v0, vs0, d0, ds0, p0, q0, hargs, rfl, rfl, h0, r0⟩ := trodAll_cons hA
  obtain ⟨v1, vs1, d1, ds1, p1, q1, rfl, rfl, rfl, h1, r1⟩ := trodAll_cons r0
  obtain ⟨v2, vs2, d2, ds2, p2, q2, rfl, rfl, rfl, h2, r2⟩ := trodAll_cons r1
  obtain ⟨rfl, rfl, rfl⟩ := trodAll_nil r2
  obtain rfl : args = #[v0, v1, v2] := by cases args; simp_all
  obtain ⟨rfl, rfl⟩ := trodVars_none hV
  obtain ⟨a0, rfl, rfl, rfl, w0⟩ := open_int Tryd.underlying5 (hval 0 5 v0 rfl rfl) h0
  obtain ⟨c10, c11, c12, y10, y11, y12, m1, rfl, rfl, rfl, hy10, hy11, hy12⟩ := open_agg3 Tryd.underlying23 (by kernel_rfl) cells_Date (hval 1 23 v1 rfl rfl) h1
  obtain ⟨a10, e10, rfl, w10⟩ := DataW.trod_int Tryd.underlying3 hy10
  obtain ⟨a11, e11, rfl, w11⟩ := DataW.trod_int Tryd.underlying3 hy11
  obtain ⟨a12, e12, rfl, w12⟩ := DataW.trod_int Tryd.underlying3 hy12
  simp at e10 e11 e12
  subst e10 e11 e12
  obtain ⟨a2, rfl, rfl, rfl, w2⟩ := open_int Tryd.underlying3 (hval 2 3 v2 rfl rfl) h2
  clear hA0
  simp only [List.append_nil] at hW'
  refine (CivilYears_walk a0 a10 a11 a12 a2 (wf_bounds8 w0) (wf_bounds w10) (wf_bounds w11) (wf_bounds w12) (wf_bounds w2) W (tab_of hL)).mono fun e W' ⟨he, hg⟩ => ?_
  subst he
  exact ⟨_, rfl, post_of_kept (pa := []) (pv := []) hW' (fun _ _ _ => (trodAll_cons_mk (shut_bool Tryd.underlying4 _) trodAll_mk0)) (fun sp _ => (trodAll_cons_mk (shut_int Tryd.underlying5 w0) (trodAll_cons_mk (shut_agg3 (y0 := (.lit (.int .i64 a10), [])) (y1 := (.lit (.int .i64 a11), [])) (y2 := (.lit (.int .i64 a12), [])) Tryd.underlying23 (by kernel_rfl) cells_Date ⟨1, by simp [DataW.trod, Tryd.underlying3, w10]⟩ ⟨1, by simp [DataW.trod, Tryd.underlying3, w11]⟩ ⟨1, by simp [DataW.trod, Tryd.underlying3, w12]⟩) (trodAll_cons_mk (shut_int Tryd.underlying3 w2) trodAll_mk0)))) (fun _ _ => rfl) rfl
    hg (ok_one (by kernel_rfl) rfl (okWide_bool_mk Tryd.underlying4 _))⟩
theorem CivilYears_laid (os : Os) : laidMet Tryd.prog Rows.civilYearsRow.laid ((laidWorld os).forCall (fun _ _ => 0) ⟨#[], #[.int .u8 0, .agg #[.int .i64 0, .int .i64 0, .int .i64 0], .int .i64 0], []⟩).memory :=
  laidMet_of_run' 8 (by kernel_rfl) (by kernel_rfl)
theorem CivilYears_reads (os : Os) {H : Type} (enc : TypeId × Value → H) : ∃ places, DataW.whole enc Tryd.prog ((laidWorld os).forCall (fun _ _ => 0) ⟨#[], #[.int .u8 0, .agg #[.int .i64 0, .int .i64 0, .int .i64 0], .int .i64 0], []⟩).memory Tryd.f3.params.toList Rows.civilYearsSpec.vars false (#[.int .u8 0, .agg #[.int .i64 0, .int .i64 0, .int .i64 0], .int .i64 0] : Array Value).toList 8 = some ([.lit (.int .u8 0), .agg [.lit (.int .i64 0), .lit (.int .i64 0), .lit (.int .i64 0)], .lit (.int .i64 0)], [], places) :=
  ⟨[], by kernel_rfl⟩
set_option maxRecDepth 100000 in
theorem CivilYears_lifted (os : Os) (started : os.Started) (H : Type) (enc : TypeId × Value → H) (F : Stop.Interp) :
    ReturnsInHanded {} Tryd.checked os 3 .any ((OpenSpec.ofChange Rows.civilYearsSpec).preRow enc Tryd.prog Tryd.f3 Rows.civilYearsRow.domain false Rows.civilYearsRow.laid) (((OpenSpec.ofChange Rows.civilYearsSpec).at F).post enc Tryd.prog Tryd.f3 false true false false) := by
  obtain ⟨places, hx⟩ := CivilYears_reads os enc
  refine returnsInHanded_of_row (C := Tryd.checked) (s := OpenSpec.ofChange Rows.civilYearsSpec) own_knob started (by kernel_rfl) Tryd.func3
    (witness_row_at (enc := enc) (C := Tryd.checked) false (laidWorld os) #[.int .u8 0, .agg #[.int .i64 0, .int .i64 0, .int .i64 0], .int .i64 0] rfl (by kernel_rfl) (by kernel_rfl) (by kernel_rfl)
      (OpenSpec.preRow_of_cond 8 hx (by kernel_rfl) (fun k hk => by cases hk) (by kernel_rfl) (CivilYears_laid os))) ?_
  intro W base args ds gs before hval hW _ _ _ hL _ _
  exact CivilYears_contract H enc W base args ds gs before hval hW hL
theorem CivilYears_said : Rows.CivilYearsSaid :=
  OpenClaim.holds_of_cond 3 Tryd.f3 rfl rfl rfl rfl rfl rfl rfl ⟨rfl, rfl, rfl, rfl, rfl⟩ rfl rfl rfl rfl rfl (by kernel_rfl) Tryd.func3 (by kernel_rfl)
    (of_decide_eq_true (by kernel_rfl)) (by unfold Func.isWrapper; first | (rw [if_pos (by decide +kernel)]; kernel_rfl) | (rw [if_neg (by decide +kernel)]; exact ⟨rfl, rfl⟩))
    (fun os started H enc _ F => by rw [OpenClaim.pre_eq_preRow]; exact CivilYears_lifted os started H enc F)
theorem CivilYears_plain (f : FuncId) (fn : Func) (hf : Tryd.pinned.checked.prog.funcNamed "computus/computuslaw05.CivilYears" = some f) (hfn : Tryd.pinned.checked.prog.funcs[f]? = some fn) :
    false = Tryd.pinned.checked.prog.looks [] ∧ ∀ (j : Nat) t, fn.params[j]? = some t → Tryd.pinned.checked.prog.wantsStandIn t = false := by
  obtain rfl : f = 3 := Option.some.inj ((show Tryd.prog.funcNamed "computus/computuslaw05.CivilYears" = some 3 by kernel_rfl).symm.trans hf) |>.symm
  obtain rfl : fn = Tryd.f3 := (Option.some.inj (Tryd.func3.symm.trans hfn)).symm
  refine ⟨by kernel_rfl, fun j t ht => ?_⟩
  rw [Tryd.params3] at ht
  have hm : t ∈ [5, 23, 3] := by simpa using Array.mem_of_getElem? ht
  have hall : ([5, 23, 3].all fun u => !Tryd.prog.wantsStandIn u) = true := by kernel_rfl
  exact (show Tryd.prog.wantsStandIn t = false by simpa using List.all_eq_true.1 hall t hm)
theorem CivilYears_proved : Rows.CivilYearsCardSaid :=
  Claim7.holds_tied_plain_at .later [] _ _ _ _ CivilYears_said (fun _ h => by cases h) (by kernel_rfl) (fun _ h => by cases h) civilYears_row_tie rfl ⟨rfl, rfl⟩ (by kernel_rfl) rfl CivilYears_plain (by kernel_rfl)
#print axioms CivilYears_proved
end Go.Proofs.YtcfgiboknkkheaaDoor

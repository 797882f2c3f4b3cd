/- 'Rows.CivilShiftCardSaid': for both calendars, every date and two amounts, shifting by one day is the next day, and shifting twice is shifting by the sum. No condition but that julian.lengths lies as the program's text lays it, which the card ties. -/
import Derived.Test.YtcfgiboknkkheaaDoorCivAw
set_option linter.unusedSimpArgs false
set_option linter.unusedVariables false
set_option linter.unusedSectionVars false
namespace Go.Proofs.YtcfgiboknkkheaaDoor
open Go.ChangeShapes Go.WideShapes Go.ChangeAt Go.RowKit Go.Joins
set_option maxHeartbeats 1000000

theorem sh_err (k y m d n x1 x2 x3 e : Int) (h : ShRel k y m d n x1 x2 x3 e) : (e = 0 ∧ IsCal k ∧ OkD k y m d ∧ OkD k x1 x2 x3 ∧ num k x1 x2 x3 = num k y m d + n) ∨ (1 ≤ e ∧ e ≤ 3) := by
  rcases h with ⟨hz, _, _, _, rfl⟩ | ⟨hz, ⟨hk, ⟨_, _, _, _, rfl⟩ | ⟨ho, hn, rfl⟩⟩ | ⟨_, _, _, _, rfl⟩⟩
  · rcases c_cases k y m d with ⟨_, _, _, g⟩ | ⟨_, g, g', _⟩ <;> omega
  · omega
  · rcases c_cases k y m d with ⟨_, g1, g2, _⟩ | ⟨_, g, _⟩
    · exact .inl ⟨rfl, hk, g1, ho, by rw [hn, g2]⟩
    · omega
  · omega
theorem sh_err1 (k y m d n x1 x2 x3 e : Int) (hk : IsCal k) (ho : OkD k y m d) (h : ShRel k y m d n x1 x2 x3 e) : (e = 0 ∧ OkD k x1 x2 x3 ∧ num k x1 x2 x3 = num k y m d + n) ∨ e = 1 := by
  rcases h with ⟨hz, _⟩ | ⟨_, ⟨_, ⟨_, _, _, _, rfl⟩ | ⟨h1, h2, rfl⟩⟩ | ⟨g, _⟩⟩
  · exact absurd (c_ok k y m d hk ho).2 hz
  · exact .inr rfl
  · exact .inl ⟨rfl, h1, by rw [h2, (c_ok k y m d hk ho).1]⟩
  · exact absurd hk g
theorem sh_sum (k y m d a b x1 x2 x3 z1 z2 z3 f : Int) (hk : IsCal k) (h : OkD k y m d) (hx : OkD k x1 x2 x3) (hn : num k x1 x2 x3 = num k y m d + a) (hz : ShRel k y m d (a + b) z1 z2 z3 f) : ShRel k x1 x2 x3 b z1 z2 z3 f := by
  obtain ⟨p1, p2⟩ := c_ok k y m d hk h
  obtain ⟨q1, q2⟩ := c_ok k x1 x2 x3 hk hx
  rcases hz with ⟨g, _⟩ | ⟨_, g⟩
  · exact absurd p2 g
  · refine .inr ⟨q2, ?_⟩
    rw [q1, hn, Int.add_assoc, ← p1]
    exact g
theorem next_is (k y m d n1 n2 n3 : Int) (h : OkD k y m d) (hn : OkD k n1 n2 n3) (e : num k n1 n2 n3 = num k y m d + 1) :
    (d < mlen (lp k y) m ∧ n1 = y ∧ n2 = m ∧ n3 = d + 1) ∨ (mlen (lp k y) m ≤ d ∧ m < 12 ∧ n1 = y ∧ n2 = m + 1 ∧ n3 = 1) ∨ (mlen (lp k y) m ≤ d ∧ 12 ≤ m ∧ n1 = y + 1 ∧ n2 = 1 ∧ n3 = 1) := by
  obtain ⟨x1, x2, x3⟩ := num_next k y m d h
  by_cases c1 : d < mlen (lp k y) m
  · obtain ⟨o, oe⟩ := x1 c1
    obtain ⟨r1, r2, r3⟩ := num_inj k _ _ _ _ _ _ hn o (by omega)
    exact .inl ⟨c1, r1, r2, r3⟩
  · by_cases c2 : m < 12
    · obtain ⟨o, oe⟩ := x2 c1 c2
      obtain ⟨r1, r2, r3⟩ := num_inj k _ _ _ _ _ _ hn o (by omega)
      exact .inr (.inl ⟨by omega, c2, r1, r2, r3⟩)
    · have oe := x3 c1 c2
      have h1 := h.1
      have h2 := h.2.1
      have o : OkD k (y + 1) 1 1 := by
        refine ⟨by omega, ?_, by omega, by omega, by omega, by have := mlen_bounds (lp k (y + 1)) 1 (by omega) (by omega); omega⟩
        by_cases c3 : y = 1000000000
        · subst c3
          have hb := num_bounds k _ _ _ hn
          have : num k (1000000000 + 1) 1 1 = fst k 1000000001 := by
            unfold num
            rw [cum_1, show (1000000000 : Int) + 1 = 1000000001 from rfl]
            omega
          omega
        · omega
      obtain ⟨r1, r2, r3⟩ := num_inj k _ _ _ _ _ _ hn o (by omega)
      exact .inr (.inr ⟨by omega, by omega, r1, r2, r3⟩)
theorem CivilShift_walk (c y m d a b : Int) (_bc : 0 ≤ c ∧ c ≤ 255) (_by : -9223372036854775808 ≤ y ∧ y ≤ 9223372036854775807) (_bm : -9223372036854775808 ≤ m ∧ m ≤ 9223372036854775807) (_bd : -9223372036854775808 ≤ d ∧ d ≤ 9223372036854775807) (_ba : -2147483648 ≤ a ∧ a ≤ 2147483647) (_bb : -2147483648 ≤ b ∧ b ≤ 2147483647) (w : World) (hT : Tab w) :
    Calls Tryd.prog 5 #[.int .u8 c, .agg #[.int .i64 y, .int .i64 m, .int .i64 d], .int .i32 a, .int .i32 b] w fun e w' => e = .returned (.bool true) ∧ Kept w w' := by
  clear _by _bm _bd
  obtain ⟨c1, c2⟩ := _bc
  obtain ⟨a1, a2⟩ := _ba
  obtain ⟨b1, b2⟩ := _bb
  have KT := Lib.hid (fun w' (k : Kept w w') => hT.kept k)
  clear hT
  rcases (show c % 2 = 0 ∨ c % 2 = 1 by omega) with hc | hc
  · obtain ⟨x1, x2, x3, e, hsx⟩ := sh_some 1 y m d a
    have HX := Lib.hid hsx
    rcases sh_err _ _ _ _ _ _ _ _ _ hsx with ⟨rfl, hk, ho, hox, hn⟩ | ⟨he, _⟩
    · obtain ⟨z1, z2, z3, f, hsz⟩ := sh_some 1 y m d (a + b)
      have HZ := Lib.hid hsz
      have HB := Lib.hid (sh_sum _ _ _ _ _ _ _ _ _ _ _ _ _ hk ho hox hn hsz)
      obtain ⟨n1, n2, n3, h, hsn⟩ := sh_some 1 y m d 1
      have HN := Lib.hid hsn
      have y1 := ho.1
      have y2 := ho.2.1
      have m1 := ho.2.2.1
      have d1 := ho.2.2.2.2.1
      have ml := (mlen_bounds (lp 1 y) m ho.2.2.1 ho.2.2.2.1).2
      clear hsx hsz hox hn
      rcases sh_err1 _ _ _ _ _ _ _ _ _ hk ho hsn with ⟨rfl, hon, hnn⟩ | rfl
      · rcases next_is _ _ _ _ _ _ _ ho hon hnn with ⟨q1, rfl, rfl, rfl⟩ | ⟨q1, q2, rfl, rfl, rfl⟩ | ⟨q1, q2, rfl, rfl, rfl⟩
        · clear hon hnn ho hsn hk
          go_enter Tryd.func5, Tryd.ntmps5
          go_wp2_with fail
          (go_at_call 13; refine (Civ_awake _ (KT.out _ (by repeat (first | with_reducible exact Kept.refl _ | with_reducible assumption | with_reducible refine Kept.drew ?_ | with_reducible refine Kept.drewN ?_ _ | with_reducible refine Kept.alloc ?_ _ | (with_reducible refine Kept.setCell ?_ (by first | exact Nat.le_refl _ | omega | (simp; done) | (simp; omega)) _) | (with_reducible refine Kept.trans ?_ (by with_reducible assumption)))))).mono ?_; rintro e w1 ⟨rfl, hk1⟩)
          have hB1_1 := hk1
          obtain ⟨hc1_1, hf1_1⟩ := kept_cells hB1_1
          have hz1_0_1 : w.heap.size < w1.heap.size := by have := hB1_1.size; simp at this; omega
          go_wp2_with fail
          (go_at_call 19; refine (Shift_all _ _ _ _ _ _ _ _ _ _ (KT.out _ (by repeat (first | with_reducible exact Kept.refl _ | with_reducible assumption | with_reducible refine Kept.drew ?_ | with_reducible refine Kept.drewN ?_ _ | with_reducible refine Kept.alloc ?_ _ | (with_reducible refine Kept.setCell ?_ (by first | exact Nat.le_refl _ | omega | (simp; done) | (simp; omega)) _) | (with_reducible refine Kept.trans ?_ (by with_reducible assumption))))) HX.out (by omega)).mono ?_; rintro e w2 ⟨rfl, hk2⟩)
          have hB1_2 := Kept.trans hB1_1 hk2
          obtain ⟨hc1_2, hf1_2⟩ := kept_cells hB1_2
          have hz1_0_2 : w.heap.size < w2.heap.size := by have := hB1_2.size; simp at this; omega
          go_wp2_with fail
          (go_at_call 19; refine (Shift_all _ _ _ _ _ _ _ _ _ _ (KT.out _ (by repeat (first | with_reducible exact Kept.refl _ | with_reducible assumption | with_reducible refine Kept.drew ?_ | with_reducible refine Kept.drewN ?_ _ | with_reducible refine Kept.alloc ?_ _ | (with_reducible refine Kept.setCell ?_ (by first | exact Nat.le_refl _ | omega | (simp; done) | (simp; omega)) _) | (with_reducible refine Kept.trans ?_ (by with_reducible assumption))))) HB.out (by omega)).mono ?_; rintro e w3 ⟨rfl, hk3⟩)
          have hB1_3 := Kept.trans (Kept.alloc hB1_2 _) hk3
          have hB3_3 := hk3
          obtain ⟨hc1_3, hf1_3⟩ := kept_cells hB1_3
          have hz1_0_3 : w.heap.size < w3.heap.size := by have := hB1_3.size; simp at this; omega
          obtain ⟨hc3_3, hf3_3⟩ := kept_cells hB3_3
          have hz3_0_3 : w2.heap.size < w3.heap.size := by have := hB3_3.size; simp at this; omega
          go_wp2_with fail
          (go_at_call 19; refine (Shift_all _ _ _ _ _ _ _ _ _ _ (KT.out _ (by repeat (first | with_reducible exact Kept.refl _ | with_reducible assumption | with_reducible refine Kept.drew ?_ | with_reducible refine Kept.drewN ?_ _ | with_reducible refine Kept.alloc ?_ _ | (with_reducible refine Kept.setCell ?_ (by first | exact Nat.le_refl _ | omega | (simp; done) | (simp; omega)) _) | (with_reducible refine Kept.trans ?_ (by with_reducible assumption))))) HZ.out (by omega)).mono ?_; rintro e w4 ⟨rfl, hk4⟩)
          have hB1_4 := Kept.trans (Kept.alloc hB1_3 _) hk4
          have hB3_4 := Kept.trans (Kept.alloc hB3_3 _) hk4
          have hB4_4 := hk4
          obtain ⟨hc1_4, hf1_4⟩ := kept_cells hB1_4
          have hz1_0_4 : w.heap.size < w4.heap.size := by have := hB1_4.size; simp at this; omega
          obtain ⟨hc3_4, hf3_4⟩ := kept_cells hB3_4
          have hz3_0_4 : w2.heap.size < w4.heap.size := by have := hB3_4.size; simp at this; omega
          obtain ⟨hc4_4, hf4_4⟩ := kept_cells hB4_4
          have hz4_0_4 : w3.heap.size < w4.heap.size := by have := hB4_4.size; simp at this; omega
          go_wp2_with fail
          (go_at_call 19; refine (Shift_all _ _ _ _ _ _ _ _ _ _ (KT.out _ (by repeat (first | with_reducible exact Kept.refl _ | with_reducible assumption | with_reducible refine Kept.drew ?_ | with_reducible refine Kept.drewN ?_ _ | with_reducible refine Kept.alloc ?_ _ | (with_reducible refine Kept.setCell ?_ (by first | exact Nat.le_refl _ | omega | (simp; done) | (simp; omega)) _) | (with_reducible refine Kept.trans ?_ (by with_reducible assumption))))) HN.out (by omega)).mono ?_; rintro e w5 ⟨rfl, hk5⟩)
          have hB1_5 := Kept.trans (Kept.alloc hB1_4 _) hk5
          have hB3_5 := Kept.trans (Kept.alloc hB3_4 _) hk5
          have hB4_5 := Kept.trans (Kept.alloc hB4_4 _) hk5
          have hB5_5 := hk5
          obtain ⟨hc1_5, hf1_5⟩ := kept_cells hB1_5
          have hz1_0_5 : w.heap.size < w5.heap.size := by have := hB1_5.size; simp at this; omega
          obtain ⟨hc3_5, hf3_5⟩ := kept_cells hB3_5
          have hz3_0_5 : w2.heap.size < w5.heap.size := by have := hB3_5.size; simp at this; omega
          obtain ⟨hc4_5, hf4_5⟩ := kept_cells hB4_5
          have hz4_0_5 : w3.heap.size < w5.heap.size := by have := hB4_5.size; simp at this; omega
          obtain ⟨hc5_5, hf5_5⟩ := kept_cells hB5_5
          have hz5_0_5 : w4.heap.size < w5.heap.size := by have := hB5_5.size; simp at this; omega
          go_wp2_with fail
          go_region_held3 (fun w' => Kept (w5.alloc (.cells #[.int .i64 n1, .int .i64 n2, .int .i64 (d + 1)] 23)) w' ∧ (∀ b o, b < (w5.alloc (.cells #[.int .i64 n1, .int .i64 n2, .int .i64 (d + 1)] 23)).heap.size → w'.cell? ⟨b, o, none⟩ = (w5.alloc (.cells #[.int .i64 n1, .int .i64 n2, .int .i64 (d + 1)] 23)).cell? ⟨b, o, none⟩)) (first | exact held_of (Kept.drew (Kept.refl _)) | exact held_of (Kept.trans (And.left (by assumption)) (by assumption))) (first | (go_at_call 21; refine (refLeap_any _ _ _ (by omega) (by omega)).mono ?_; rintro e w1 ⟨rfl, rfl⟩) | (go_at_call 20; refine (Next_day _ _ _ _ _ y2 d1 q1 ml).mono ?_; rintro e w1 ⟨rfl, hk1⟩))
          go_wp2
          go_ret
          exact ⟨rfl, (by repeat (first | with_reducible exact Kept.refl _ | with_reducible assumption | with_reducible refine Kept.drew ?_ | with_reducible refine Kept.drewN ?_ _ | with_reducible refine Kept.alloc ?_ _ | (with_reducible refine Kept.setCell ?_ (by first | exact Nat.le_refl _ | omega | (simp; done) | (simp; omega)) _) | (with_reducible refine Kept.trans ?_ (by with_reducible assumption))))⟩
        · clear hon hnn ho hsn hk
          go_enter Tryd.func5, Tryd.ntmps5
          go_wp2_with fail
          (go_at_call 13; refine (Civ_awake _ (KT.out _ (by repeat (first | with_reducible exact Kept.refl _ | with_reducible assumption | with_reducible refine Kept.drew ?_ | with_reducible refine Kept.drewN ?_ _ | with_reducible refine Kept.alloc ?_ _ | (with_reducible refine Kept.setCell ?_ (by first | exact Nat.le_refl _ | omega | (simp; done) | (simp; omega)) _) | (with_reducible refine Kept.trans ?_ (by with_reducible assumption)))))).mono ?_; rintro e w1 ⟨rfl, hk1⟩)
          have hB1_1 := hk1
          obtain ⟨hc1_1, hf1_1⟩ := kept_cells hB1_1
          have hz1_0_1 : w.heap.size < w1.heap.size := by have := hB1_1.size; simp at this; omega
          go_wp2_with fail
          (go_at_call 19; refine (Shift_all _ _ _ _ _ _ _ _ _ _ (KT.out _ (by repeat (first | with_reducible exact Kept.refl _ | with_reducible assumption | with_reducible refine Kept.drew ?_ | with_reducible refine Kept.drewN ?_ _ | with_reducible refine Kept.alloc ?_ _ | (with_reducible refine Kept.setCell ?_ (by first | exact Nat.le_refl _ | omega | (simp; done) | (simp; omega)) _) | (with_reducible refine Kept.trans ?_ (by with_reducible assumption))))) HX.out (by omega)).mono ?_; rintro e w2 ⟨rfl, hk2⟩)
          have hB1_2 := Kept.trans hB1_1 hk2
          obtain ⟨hc1_2, hf1_2⟩ := kept_cells hB1_2
          have hz1_0_2 : w.heap.size < w2.heap.size := by have := hB1_2.size; simp at this; omega
          go_wp2_with fail
          (go_at_call 19; refine (Shift_all _ _ _ _ _ _ _ _ _ _ (KT.out _ (by repeat (first | with_reducible exact Kept.refl _ | with_reducible assumption | with_reducible refine Kept.drew ?_ | with_reducible refine Kept.drewN ?_ _ | with_reducible refine Kept.alloc ?_ _ | (with_reducible refine Kept.setCell ?_ (by first | exact Nat.le_refl _ | omega | (simp; done) | (simp; omega)) _) | (with_reducible refine Kept.trans ?_ (by with_reducible assumption))))) HB.out (by omega)).mono ?_; rintro e w3 ⟨rfl, hk3⟩)
          have hB1_3 := Kept.trans (Kept.alloc hB1_2 _) hk3
          have hB3_3 := hk3
          obtain ⟨hc1_3, hf1_3⟩ := kept_cells hB1_3
          have hz1_0_3 : w.heap.size < w3.heap.size := by have := hB1_3.size; simp at this; omega
          obtain ⟨hc3_3, hf3_3⟩ := kept_cells hB3_3
          have hz3_0_3 : w2.heap.size < w3.heap.size := by have := hB3_3.size; simp at this; omega
          go_wp2_with fail
          (go_at_call 19; refine (Shift_all _ _ _ _ _ _ _ _ _ _ (KT.out _ (by repeat (first | with_reducible exact Kept.refl _ | with_reducible assumption | with_reducible refine Kept.drew ?_ | with_reducible refine Kept.drewN ?_ _ | with_reducible refine Kept.alloc ?_ _ | (with_reducible refine Kept.setCell ?_ (by first | exact Nat.le_refl _ | omega | (simp; done) | (simp; omega)) _) | (with_reducible refine Kept.trans ?_ (by with_reducible assumption))))) HZ.out (by omega)).mono ?_; rintro e w4 ⟨rfl, hk4⟩)
          have hB1_4 := Kept.trans (Kept.alloc hB1_3 _) hk4
          have hB3_4 := Kept.trans (Kept.alloc hB3_3 _) hk4
          have hB4_4 := hk4
          obtain ⟨hc1_4, hf1_4⟩ := kept_cells hB1_4
          have hz1_0_4 : w.heap.size < w4.heap.size := by have := hB1_4.size; simp at this; omega
          obtain ⟨hc3_4, hf3_4⟩ := kept_cells hB3_4
          have hz3_0_4 : w2.heap.size < w4.heap.size := by have := hB3_4.size; simp at this; omega
          obtain ⟨hc4_4, hf4_4⟩ := kept_cells hB4_4
          have hz4_0_4 : w3.heap.size < w4.heap.size := by have := hB4_4.size; simp at this; omega
          go_wp2_with fail
          (go_at_call 19; refine (Shift_all _ _ _ _ _ _ _ _ _ _ (KT.out _ (by repeat (first | with_reducible exact Kept.refl _ | with_reducible assumption | with_reducible refine Kept.drew ?_ | with_reducible refine Kept.drewN ?_ _ | with_reducible refine Kept.alloc ?_ _ | (with_reducible refine Kept.setCell ?_ (by first | exact Nat.le_refl _ | omega | (simp; done) | (simp; omega)) _) | (with_reducible refine Kept.trans ?_ (by with_reducible assumption))))) HN.out (by omega)).mono ?_; rintro e w5 ⟨rfl, hk5⟩)
          have hB1_5 := Kept.trans (Kept.alloc hB1_4 _) hk5
          have hB3_5 := Kept.trans (Kept.alloc hB3_4 _) hk5
          have hB4_5 := Kept.trans (Kept.alloc hB4_4 _) hk5
          have hB5_5 := hk5
          obtain ⟨hc1_5, hf1_5⟩ := kept_cells hB1_5
          have hz1_0_5 : w.heap.size < w5.heap.size := by have := hB1_5.size; simp at this; omega
          obtain ⟨hc3_5, hf3_5⟩ := kept_cells hB3_5
          have hz3_0_5 : w2.heap.size < w5.heap.size := by have := hB3_5.size; simp at this; omega
          obtain ⟨hc4_5, hf4_5⟩ := kept_cells hB4_5
          have hz4_0_5 : w3.heap.size < w5.heap.size := by have := hB4_5.size; simp at this; omega
          obtain ⟨hc5_5, hf5_5⟩ := kept_cells hB5_5
          have hz5_0_5 : w4.heap.size < w5.heap.size := by have := hB5_5.size; simp at this; omega
          go_wp2_with fail
          go_region_held3 (fun w' => Kept (w5.alloc (.cells #[.int .i64 n1, .int .i64 (m + 1), .int .i64 1] 23)) w' ∧ (∀ b o, b < (w5.alloc (.cells #[.int .i64 n1, .int .i64 (m + 1), .int .i64 1] 23)).heap.size → w'.cell? ⟨b, o, none⟩ = (w5.alloc (.cells #[.int .i64 n1, .int .i64 (m + 1), .int .i64 1] 23)).cell? ⟨b, o, none⟩)) (first | exact held_of (Kept.drew (Kept.refl _)) | exact held_of (Kept.trans (And.left (by assumption)) (by assumption))) (first | (go_at_call 21; refine (refLeap_any _ _ _ (by omega) (by omega)).mono ?_; rintro e w1 ⟨rfl, rfl⟩) | (go_at_call 20; refine (Next_month _ _ _ _ _ y2 m1 q2 q1).mono ?_; rintro e w1 ⟨rfl, hk1⟩))
          go_wp2
          go_ret
          exact ⟨rfl, (by repeat (first | with_reducible exact Kept.refl _ | with_reducible assumption | with_reducible refine Kept.drew ?_ | with_reducible refine Kept.drewN ?_ _ | with_reducible refine Kept.alloc ?_ _ | (with_reducible refine Kept.setCell ?_ (by first | exact Nat.le_refl _ | omega | (simp; done) | (simp; omega)) _) | (with_reducible refine Kept.trans ?_ (by with_reducible assumption))))⟩
        · clear hon hnn ho hsn hk
          go_enter Tryd.func5, Tryd.ntmps5
          go_wp2_with fail
          (go_at_call 13; refine (Civ_awake _ (KT.out _ (by repeat (first | with_reducible exact Kept.refl _ | with_reducible assumption | with_reducible refine Kept.drew ?_ | with_reducible refine Kept.drewN ?_ _ | with_reducible refine Kept.alloc ?_ _ | (with_reducible refine Kept.setCell ?_ (by first | exact Nat.le_refl _ | omega | (simp; done) | (simp; omega)) _) | (with_reducible refine Kept.trans ?_ (by with_reducible assumption)))))).mono ?_; rintro e w1 ⟨rfl, hk1⟩)
          have hB1_1 := hk1
          obtain ⟨hc1_1, hf1_1⟩ := kept_cells hB1_1
          have hz1_0_1 : w.heap.size < w1.heap.size := by have := hB1_1.size; simp at this; omega
          go_wp2_with fail
          (go_at_call 19; refine (Shift_all _ _ _ _ _ _ _ _ _ _ (KT.out _ (by repeat (first | with_reducible exact Kept.refl _ | with_reducible assumption | with_reducible refine Kept.drew ?_ | with_reducible refine Kept.drewN ?_ _ | with_reducible refine Kept.alloc ?_ _ | (with_reducible refine Kept.setCell ?_ (by first | exact Nat.le_refl _ | omega | (simp; done) | (simp; omega)) _) | (with_reducible refine Kept.trans ?_ (by with_reducible assumption))))) HX.out (by omega)).mono ?_; rintro e w2 ⟨rfl, hk2⟩)
          have hB1_2 := Kept.trans hB1_1 hk2
          obtain ⟨hc1_2, hf1_2⟩ := kept_cells hB1_2
          have hz1_0_2 : w.heap.size < w2.heap.size := by have := hB1_2.size; simp at this; omega
          go_wp2_with fail
          (go_at_call 19; refine (Shift_all _ _ _ _ _ _ _ _ _ _ (KT.out _ (by repeat (first | with_reducible exact Kept.refl _ | with_reducible assumption | with_reducible refine Kept.drew ?_ | with_reducible refine Kept.drewN ?_ _ | with_reducible refine Kept.alloc ?_ _ | (with_reducible refine Kept.setCell ?_ (by first | exact Nat.le_refl _ | omega | (simp; done) | (simp; omega)) _) | (with_reducible refine Kept.trans ?_ (by with_reducible assumption))))) HB.out (by omega)).mono ?_; rintro e w3 ⟨rfl, hk3⟩)
          have hB1_3 := Kept.trans (Kept.alloc hB1_2 _) hk3
          have hB3_3 := hk3
          obtain ⟨hc1_3, hf1_3⟩ := kept_cells hB1_3
          have hz1_0_3 : w.heap.size < w3.heap.size := by have := hB1_3.size; simp at this; omega
          obtain ⟨hc3_3, hf3_3⟩ := kept_cells hB3_3
          have hz3_0_3 : w2.heap.size < w3.heap.size := by have := hB3_3.size; simp at this; omega
          go_wp2_with fail
          (go_at_call 19; refine (Shift_all _ _ _ _ _ _ _ _ _ _ (KT.out _ (by repeat (first | with_reducible exact Kept.refl _ | with_reducible assumption | with_reducible refine Kept.drew ?_ | with_reducible refine Kept.drewN ?_ _ | with_reducible refine Kept.alloc ?_ _ | (with_reducible refine Kept.setCell ?_ (by first | exact Nat.le_refl _ | omega | (simp; done) | (simp; omega)) _) | (with_reducible refine Kept.trans ?_ (by with_reducible assumption))))) HZ.out (by omega)).mono ?_; rintro e w4 ⟨rfl, hk4⟩)
          have hB1_4 := Kept.trans (Kept.alloc hB1_3 _) hk4
          have hB3_4 := Kept.trans (Kept.alloc hB3_3 _) hk4
          have hB4_4 := hk4
          obtain ⟨hc1_4, hf1_4⟩ := kept_cells hB1_4
          have hz1_0_4 : w.heap.size < w4.heap.size := by have := hB1_4.size; simp at this; omega
          obtain ⟨hc3_4, hf3_4⟩ := kept_cells hB3_4
          have hz3_0_4 : w2.heap.size < w4.heap.size := by have := hB3_4.size; simp at this; omega
          obtain ⟨hc4_4, hf4_4⟩ := kept_cells hB4_4
          have hz4_0_4 : w3.heap.size < w4.heap.size := by have := hB4_4.size; simp at this; omega
          go_wp2_with fail
          (go_at_call 19; refine (Shift_all _ _ _ _ _ _ _ _ _ _ (KT.out _ (by repeat (first | with_reducible exact Kept.refl _ | with_reducible assumption | with_reducible refine Kept.drew ?_ | with_reducible refine Kept.drewN ?_ _ | with_reducible refine Kept.alloc ?_ _ | (with_reducible refine Kept.setCell ?_ (by first | exact Nat.le_refl _ | omega | (simp; done) | (simp; omega)) _) | (with_reducible refine Kept.trans ?_ (by with_reducible assumption))))) HN.out (by omega)).mono ?_; rintro e w5 ⟨rfl, hk5⟩)
          have hB1_5 := Kept.trans (Kept.alloc hB1_4 _) hk5
          have hB3_5 := Kept.trans (Kept.alloc hB3_4 _) hk5
          have hB4_5 := Kept.trans (Kept.alloc hB4_4 _) hk5
          have hB5_5 := hk5
          obtain ⟨hc1_5, hf1_5⟩ := kept_cells hB1_5
          have hz1_0_5 : w.heap.size < w5.heap.size := by have := hB1_5.size; simp at this; omega
          obtain ⟨hc3_5, hf3_5⟩ := kept_cells hB3_5
          have hz3_0_5 : w2.heap.size < w5.heap.size := by have := hB3_5.size; simp at this; omega
          obtain ⟨hc4_5, hf4_5⟩ := kept_cells hB4_5
          have hz4_0_5 : w3.heap.size < w5.heap.size := by have := hB4_5.size; simp at this; omega
          obtain ⟨hc5_5, hf5_5⟩ := kept_cells hB5_5
          have hz5_0_5 : w4.heap.size < w5.heap.size := by have := hB5_5.size; simp at this; omega
          go_wp2_with fail
          go_region_held3 (fun w' => Kept (w5.alloc (.cells #[.int .i64 (y + 1), .int .i64 1, .int .i64 1] 23)) w' ∧ (∀ b o, b < (w5.alloc (.cells #[.int .i64 (y + 1), .int .i64 1, .int .i64 1] 23)).heap.size → w'.cell? ⟨b, o, none⟩ = (w5.alloc (.cells #[.int .i64 (y + 1), .int .i64 1, .int .i64 1] 23)).cell? ⟨b, o, none⟩)) (first | exact held_of (Kept.drew (Kept.refl _)) | exact held_of (Kept.trans (And.left (by assumption)) (by assumption))) (first | (go_at_call 21; refine (refLeap_any _ _ _ (by omega) (by omega)).mono ?_; rintro e w1 ⟨rfl, rfl⟩) | (go_at_call 20; refine (Next_year _ _ _ _ _ y1 y2 q2 q1).mono ?_; rintro e w1 ⟨rfl, hk1⟩))
          go_wp2
          go_ret
          exact ⟨rfl, (by repeat (first | with_reducible exact Kept.refl _ | with_reducible assumption | with_reducible refine Kept.drew ?_ | with_reducible refine Kept.drewN ?_ _ | with_reducible refine Kept.alloc ?_ _ | (with_reducible refine Kept.setCell ?_ (by first | exact Nat.le_refl _ | omega | (simp; done) | (simp; omega)) _) | (with_reducible refine Kept.trans ?_ (by with_reducible assumption))))⟩
      · clear ho hsn hk
        go_enter Tryd.func5, Tryd.ntmps5
        go_wp2_with fail
        (go_at_call 13; refine (Civ_awake _ (KT.out _ (by repeat (first | with_reducible exact Kept.refl _ | with_reducible assumption | with_reducible refine Kept.drew ?_ | with_reducible refine Kept.drewN ?_ _ | with_reducible refine Kept.alloc ?_ _ | (with_reducible refine Kept.setCell ?_ (by first | exact Nat.le_refl _ | omega | (simp; done) | (simp; omega)) _) | (with_reducible refine Kept.trans ?_ (by with_reducible assumption)))))).mono ?_; rintro e w1 ⟨rfl, hk1⟩)
        have hB1_1 := hk1
        obtain ⟨hc1_1, hf1_1⟩ := kept_cells hB1_1
        have hz1_0_1 : w.heap.size < w1.heap.size := by have := hB1_1.size; simp at this; omega
        go_wp2_with fail
        (go_at_call 19; refine (Shift_all _ _ _ _ _ _ _ _ _ _ (KT.out _ (by repeat (first | with_reducible exact Kept.refl _ | with_reducible assumption | with_reducible refine Kept.drew ?_ | with_reducible refine Kept.drewN ?_ _ | with_reducible refine Kept.alloc ?_ _ | (with_reducible refine Kept.setCell ?_ (by first | exact Nat.le_refl _ | omega | (simp; done) | (simp; omega)) _) | (with_reducible refine Kept.trans ?_ (by with_reducible assumption))))) HX.out (by omega)).mono ?_; rintro e w2 ⟨rfl, hk2⟩)
        have hB1_2 := Kept.trans hB1_1 hk2
        obtain ⟨hc1_2, hf1_2⟩ := kept_cells hB1_2
        have hz1_0_2 : w.heap.size < w2.heap.size := by have := hB1_2.size; simp at this; omega
        go_wp2_with fail
        (go_at_call 19; refine (Shift_all _ _ _ _ _ _ _ _ _ _ (KT.out _ (by repeat (first | with_reducible exact Kept.refl _ | with_reducible assumption | with_reducible refine Kept.drew ?_ | with_reducible refine Kept.drewN ?_ _ | with_reducible refine Kept.alloc ?_ _ | (with_reducible refine Kept.setCell ?_ (by first | exact Nat.le_refl _ | omega | (simp; done) | (simp; omega)) _) | (with_reducible refine Kept.trans ?_ (by with_reducible assumption))))) HB.out (by omega)).mono ?_; rintro e w3 ⟨rfl, hk3⟩)
        have hB1_3 := Kept.trans (Kept.alloc hB1_2 _) hk3
        have hB3_3 := hk3
        obtain ⟨hc1_3, hf1_3⟩ := kept_cells hB1_3
        have hz1_0_3 : w.heap.size < w3.heap.size := by have := hB1_3.size; simp at this; omega
        obtain ⟨hc3_3, hf3_3⟩ := kept_cells hB3_3
        have hz3_0_3 : w2.heap.size < w3.heap.size := by have := hB3_3.size; simp at this; omega
        go_wp2_with fail
        (go_at_call 19; refine (Shift_all _ _ _ _ _ _ _ _ _ _ (KT.out _ (by repeat (first | with_reducible exact Kept.refl _ | with_reducible assumption | with_reducible refine Kept.drew ?_ | with_reducible refine Kept.drewN ?_ _ | with_reducible refine Kept.alloc ?_ _ | (with_reducible refine Kept.setCell ?_ (by first | exact Nat.le_refl _ | omega | (simp; done) | (simp; omega)) _) | (with_reducible refine Kept.trans ?_ (by with_reducible assumption))))) HZ.out (by omega)).mono ?_; rintro e w4 ⟨rfl, hk4⟩)
        have hB1_4 := Kept.trans (Kept.alloc hB1_3 _) hk4
        have hB3_4 := Kept.trans (Kept.alloc hB3_3 _) hk4
        have hB4_4 := hk4
        obtain ⟨hc1_4, hf1_4⟩ := kept_cells hB1_4
        have hz1_0_4 : w.heap.size < w4.heap.size := by have := hB1_4.size; simp at this; omega
        obtain ⟨hc3_4, hf3_4⟩ := kept_cells hB3_4
        have hz3_0_4 : w2.heap.size < w4.heap.size := by have := hB3_4.size; simp at this; omega
        obtain ⟨hc4_4, hf4_4⟩ := kept_cells hB4_4
        have hz4_0_4 : w3.heap.size < w4.heap.size := by have := hB4_4.size; simp at this; omega
        go_wp2_with fail
        (go_at_call 19; refine (Shift_all _ _ _ _ _ _ _ _ _ _ (KT.out _ (by repeat (first | with_reducible exact Kept.refl _ | with_reducible assumption | with_reducible refine Kept.drew ?_ | with_reducible refine Kept.drewN ?_ _ | with_reducible refine Kept.alloc ?_ _ | (with_reducible refine Kept.setCell ?_ (by first | exact Nat.le_refl _ | omega | (simp; done) | (simp; omega)) _) | (with_reducible refine Kept.trans ?_ (by with_reducible assumption))))) HN.out (by omega)).mono ?_; rintro e w5 ⟨rfl, hk5⟩)
        have hB1_5 := Kept.trans (Kept.alloc hB1_4 _) hk5
        have hB3_5 := Kept.trans (Kept.alloc hB3_4 _) hk5
        have hB4_5 := Kept.trans (Kept.alloc hB4_4 _) hk5
        have hB5_5 := hk5
        obtain ⟨hc1_5, hf1_5⟩ := kept_cells hB1_5
        have hz1_0_5 : w.heap.size < w5.heap.size := by have := hB1_5.size; simp at this; omega
        obtain ⟨hc3_5, hf3_5⟩ := kept_cells hB3_5
        have hz3_0_5 : w2.heap.size < w5.heap.size := by have := hB3_5.size; simp at this; omega
        obtain ⟨hc4_5, hf4_5⟩ := kept_cells hB4_5
        have hz4_0_5 : w3.heap.size < w5.heap.size := by have := hB4_5.size; simp at this; omega
        obtain ⟨hc5_5, hf5_5⟩ := kept_cells hB5_5
        have hz5_0_5 : w4.heap.size < w5.heap.size := by have := hB5_5.size; simp at this; omega
        go_wp2_with fail
        go_quiet (fail)
        go_wp2
        go_ret
        exact ⟨rfl, (by repeat (first | with_reducible exact Kept.refl _ | with_reducible assumption | with_reducible refine Kept.drew ?_ | with_reducible refine Kept.drewN ?_ _ | with_reducible refine Kept.alloc ?_ _ | (with_reducible refine Kept.setCell ?_ (by first | exact Nat.le_refl _ | omega | (simp; done) | (simp; omega)) _) | (with_reducible refine Kept.trans ?_ (by with_reducible assumption))))⟩
    · clear hsx
      go_enter Tryd.func5, Tryd.ntmps5
      go_wp2_with fail
      (go_at_call 13; refine (Civ_awake _ (KT.out _ (by repeat (first | with_reducible exact Kept.refl _ | with_reducible assumption | with_reducible refine Kept.drew ?_ | with_reducible refine Kept.drewN ?_ _ | with_reducible refine Kept.alloc ?_ _ | (with_reducible refine Kept.setCell ?_ (by first | exact Nat.le_refl _ | omega | (simp; done) | (simp; omega)) _) | (with_reducible refine Kept.trans ?_ (by with_reducible assumption)))))).mono ?_; rintro e w1 ⟨rfl, hk1⟩)
      have hB1_1 := hk1
      obtain ⟨hc1_1, hf1_1⟩ := kept_cells hB1_1
      have hz1_0_1 : w.heap.size < w1.heap.size := by have := hB1_1.size; simp at this; omega
      go_wp2_with fail
      (go_at_call 19; refine (Shift_all _ _ _ _ _ _ _ _ _ _ (KT.out _ (by repeat (first | with_reducible exact Kept.refl _ | with_reducible assumption | with_reducible refine Kept.drew ?_ | with_reducible refine Kept.drewN ?_ _ | with_reducible refine Kept.alloc ?_ _ | (with_reducible refine Kept.setCell ?_ (by first | exact Nat.le_refl _ | omega | (simp; done) | (simp; omega)) _) | (with_reducible refine Kept.trans ?_ (by with_reducible assumption))))) HX.out (by omega)).mono ?_; rintro e w2 ⟨rfl, hk2⟩)
      have hB1_2 := Kept.trans hB1_1 hk2
      obtain ⟨hc1_2, hf1_2⟩ := kept_cells hB1_2
      have hz1_0_2 : w.heap.size < w2.heap.size := by have := hB1_2.size; simp at this; omega
      go_wp2
      go_ret
      exact ⟨rfl, (by repeat (first | with_reducible exact Kept.refl _ | with_reducible assumption | with_reducible refine Kept.drew ?_ | with_reducible refine Kept.drewN ?_ _ | with_reducible refine Kept.alloc ?_ _ | (with_reducible refine Kept.setCell ?_ (by first | exact Nat.le_refl _ | omega | (simp; done) | (simp; omega)) _) | (with_reducible refine Kept.trans ?_ (by with_reducible assumption))))⟩
  · obtain ⟨x1, x2, x3, e, hsx⟩ := sh_some 2 y m d a
    have HX := Lib.hid hsx
    rcases sh_err _ _ _ _ _ _ _ _ _ hsx with ⟨rfl, hk, ho, hox, hn⟩ | ⟨he, _⟩
    · obtain ⟨z1, z2, z3, f, hsz⟩ := sh_some 2 y m d (a + b)
      have HZ := Lib.hid hsz
      have HB := Lib.hid (sh_sum _ _ _ _ _ _ _ _ _ _ _ _ _ hk ho hox hn hsz)
      obtain ⟨n1, n2, n3, h, hsn⟩ := sh_some 2 y m d 1
      have HN := Lib.hid hsn
      have y1 := ho.1
      have y2 := ho.2.1
      have m1 := ho.2.2.1
      have d1 := ho.2.2.2.2.1
      have ml := (mlen_bounds (lp 2 y) m ho.2.2.1 ho.2.2.2.1).2
      clear hsx hsz hox hn
      rcases sh_err1 _ _ _ _ _ _ _ _ _ hk ho hsn with ⟨rfl, hon, hnn⟩ | rfl
      · rcases next_is _ _ _ _ _ _ _ ho hon hnn with ⟨q1, rfl, rfl, rfl⟩ | ⟨q1, q2, rfl, rfl, rfl⟩ | ⟨q1, q2, rfl, rfl, rfl⟩
        · clear hon hnn ho hsn hk
          go_enter Tryd.func5, Tryd.ntmps5
          go_wp2_with fail
          (go_at_call 13; refine (Civ_awake _ (KT.out _ (by repeat (first | with_reducible exact Kept.refl _ | with_reducible assumption | with_reducible refine Kept.drew ?_ | with_reducible refine Kept.drewN ?_ _ | with_reducible refine Kept.alloc ?_ _ | (with_reducible refine Kept.setCell ?_ (by first | exact Nat.le_refl _ | omega | (simp; done) | (simp; omega)) _) | (with_reducible refine Kept.trans ?_ (by with_reducible assumption)))))).mono ?_; rintro e w1 ⟨rfl, hk1⟩)
          have hB1_1 := hk1
          obtain ⟨hc1_1, hf1_1⟩ := kept_cells hB1_1
          have hz1_0_1 : w.heap.size < w1.heap.size := by have := hB1_1.size; simp at this; omega
          go_wp2_with fail
          (go_at_call 19; refine (Shift_all _ _ _ _ _ _ _ _ _ _ (KT.out _ (by repeat (first | with_reducible exact Kept.refl _ | with_reducible assumption | with_reducible refine Kept.drew ?_ | with_reducible refine Kept.drewN ?_ _ | with_reducible refine Kept.alloc ?_ _ | (with_reducible refine Kept.setCell ?_ (by first | exact Nat.le_refl _ | omega | (simp; done) | (simp; omega)) _) | (with_reducible refine Kept.trans ?_ (by with_reducible assumption))))) HX.out (by omega)).mono ?_; rintro e w2 ⟨rfl, hk2⟩)
          have hB1_2 := Kept.trans hB1_1 hk2
          obtain ⟨hc1_2, hf1_2⟩ := kept_cells hB1_2
          have hz1_0_2 : w.heap.size < w2.heap.size := by have := hB1_2.size; simp at this; omega
          go_wp2_with fail
          (go_at_call 19; refine (Shift_all _ _ _ _ _ _ _ _ _ _ (KT.out _ (by repeat (first | with_reducible exact Kept.refl _ | with_reducible assumption | with_reducible refine Kept.drew ?_ | with_reducible refine Kept.drewN ?_ _ | with_reducible refine Kept.alloc ?_ _ | (with_reducible refine Kept.setCell ?_ (by first | exact Nat.le_refl _ | omega | (simp; done) | (simp; omega)) _) | (with_reducible refine Kept.trans ?_ (by with_reducible assumption))))) HB.out (by omega)).mono ?_; rintro e w3 ⟨rfl, hk3⟩)
          have hB1_3 := Kept.trans (Kept.alloc hB1_2 _) hk3
          have hB3_3 := hk3
          obtain ⟨hc1_3, hf1_3⟩ := kept_cells hB1_3
          have hz1_0_3 : w.heap.size < w3.heap.size := by have := hB1_3.size; simp at this; omega
          obtain ⟨hc3_3, hf3_3⟩ := kept_cells hB3_3
          have hz3_0_3 : w2.heap.size < w3.heap.size := by have := hB3_3.size; simp at this; omega
          go_wp2_with fail
          (go_at_call 19; refine (Shift_all _ _ _ _ _ _ _ _ _ _ (KT.out _ (by repeat (first | with_reducible exact Kept.refl _ | with_reducible assumption | with_reducible refine Kept.drew ?_ | with_reducible refine Kept.drewN ?_ _ | with_reducible refine Kept.alloc ?_ _ | (with_reducible refine Kept.setCell ?_ (by first | exact Nat.le_refl _ | omega | (simp; done) | (simp; omega)) _) | (with_reducible refine Kept.trans ?_ (by with_reducible assumption))))) HZ.out (by omega)).mono ?_; rintro e w4 ⟨rfl, hk4⟩)
          have hB1_4 := Kept.trans (Kept.alloc hB1_3 _) hk4
          have hB3_4 := Kept.trans (Kept.alloc hB3_3 _) hk4
          have hB4_4 := hk4
          obtain ⟨hc1_4, hf1_4⟩ := kept_cells hB1_4
          have hz1_0_4 : w.heap.size < w4.heap.size := by have := hB1_4.size; simp at this; omega
          obtain ⟨hc3_4, hf3_4⟩ := kept_cells hB3_4
          have hz3_0_4 : w2.heap.size < w4.heap.size := by have := hB3_4.size; simp at this; omega
          obtain ⟨hc4_4, hf4_4⟩ := kept_cells hB4_4
          have hz4_0_4 : w3.heap.size < w4.heap.size := by have := hB4_4.size; simp at this; omega
          go_wp2_with fail
          (go_at_call 19; refine (Shift_all _ _ _ _ _ _ _ _ _ _ (KT.out _ (by repeat (first | with_reducible exact Kept.refl _ | with_reducible assumption | with_reducible refine Kept.drew ?_ | with_reducible refine Kept.drewN ?_ _ | with_reducible refine Kept.alloc ?_ _ | (with_reducible refine Kept.setCell ?_ (by first | exact Nat.le_refl _ | omega | (simp; done) | (simp; omega)) _) | (with_reducible refine Kept.trans ?_ (by with_reducible assumption))))) HN.out (by omega)).mono ?_; rintro e w5 ⟨rfl, hk5⟩)
          have hB1_5 := Kept.trans (Kept.alloc hB1_4 _) hk5
          have hB3_5 := Kept.trans (Kept.alloc hB3_4 _) hk5
          have hB4_5 := Kept.trans (Kept.alloc hB4_4 _) hk5
          have hB5_5 := hk5
          obtain ⟨hc1_5, hf1_5⟩ := kept_cells hB1_5
          have hz1_0_5 : w.heap.size < w5.heap.size := by have := hB1_5.size; simp at this; omega
          obtain ⟨hc3_5, hf3_5⟩ := kept_cells hB3_5
          have hz3_0_5 : w2.heap.size < w5.heap.size := by have := hB3_5.size; simp at this; omega
          obtain ⟨hc4_5, hf4_5⟩ := kept_cells hB4_5
          have hz4_0_5 : w3.heap.size < w5.heap.size := by have := hB4_5.size; simp at this; omega
          obtain ⟨hc5_5, hf5_5⟩ := kept_cells hB5_5
          have hz5_0_5 : w4.heap.size < w5.heap.size := by have := hB5_5.size; simp at this; omega
          go_wp2_with fail
          go_region_held3 (fun w' => Kept (w5.alloc (.cells #[.int .i64 n1, .int .i64 n2, .int .i64 (d + 1)] 23)) w' ∧ (∀ b o, b < (w5.alloc (.cells #[.int .i64 n1, .int .i64 n2, .int .i64 (d + 1)] 23)).heap.size → w'.cell? ⟨b, o, none⟩ = (w5.alloc (.cells #[.int .i64 n1, .int .i64 n2, .int .i64 (d + 1)] 23)).cell? ⟨b, o, none⟩)) (first | exact held_of (Kept.drew (Kept.refl _)) | exact held_of (Kept.trans (And.left (by assumption)) (by assumption))) (first | (go_at_call 21; refine (refLeap_any _ _ _ (by omega) (by omega)).mono ?_; rintro e w1 ⟨rfl, rfl⟩) | (go_at_call 20; refine (Next_day _ _ _ _ _ y2 d1 q1 ml).mono ?_; rintro e w1 ⟨rfl, hk1⟩))
          go_wp2
          go_ret
          exact ⟨rfl, (by repeat (first | with_reducible exact Kept.refl _ | with_reducible assumption | with_reducible refine Kept.drew ?_ | with_reducible refine Kept.drewN ?_ _ | with_reducible refine Kept.alloc ?_ _ | (with_reducible refine Kept.setCell ?_ (by first | exact Nat.le_refl _ | omega | (simp; done) | (simp; omega)) _) | (with_reducible refine Kept.trans ?_ (by with_reducible assumption))))⟩
        · clear hon hnn ho hsn hk
          go_enter Tryd.func5, Tryd.ntmps5
          go_wp2_with fail
          (go_at_call 13; refine (Civ_awake _ (KT.out _ (by repeat (first | with_reducible exact Kept.refl _ | with_reducible assumption | with_reducible refine Kept.drew ?_ | with_reducible refine Kept.drewN ?_ _ | with_reducible refine Kept.alloc ?_ _ | (with_reducible refine Kept.setCell ?_ (by first | exact Nat.le_refl _ | omega | (simp; done) | (simp; omega)) _) | (with_reducible refine Kept.trans ?_ (by with_reducible assumption)))))).mono ?_; rintro e w1 ⟨rfl, hk1⟩)
          have hB1_1 := hk1
          obtain ⟨hc1_1, hf1_1⟩ := kept_cells hB1_1
          have hz1_0_1 : w.heap.size < w1.heap.size := by have := hB1_1.size; simp at this; omega
          go_wp2_with fail
          (go_at_call 19; refine (Shift_all _ _ _ _ _ _ _ _ _ _ (KT.out _ (by repeat (first | with_reducible exact Kept.refl _ | with_reducible assumption | with_reducible refine Kept.drew ?_ | with_reducible refine Kept.drewN ?_ _ | with_reducible refine Kept.alloc ?_ _ | (with_reducible refine Kept.setCell ?_ (by first | exact Nat.le_refl _ | omega | (simp; done) | (simp; omega)) _) | (with_reducible refine Kept.trans ?_ (by with_reducible assumption))))) HX.out (by omega)).mono ?_; rintro e w2 ⟨rfl, hk2⟩)
          have hB1_2 := Kept.trans hB1_1 hk2
          obtain ⟨hc1_2, hf1_2⟩ := kept_cells hB1_2
          have hz1_0_2 : w.heap.size < w2.heap.size := by have := hB1_2.size; simp at this; omega
          go_wp2_with fail
          (go_at_call 19; refine (Shift_all _ _ _ _ _ _ _ _ _ _ (KT.out _ (by repeat (first | with_reducible exact Kept.refl _ | with_reducible assumption | with_reducible refine Kept.drew ?_ | with_reducible refine Kept.drewN ?_ _ | with_reducible refine Kept.alloc ?_ _ | (with_reducible refine Kept.setCell ?_ (by first | exact Nat.le_refl _ | omega | (simp; done) | (simp; omega)) _) | (with_reducible refine Kept.trans ?_ (by with_reducible assumption))))) HB.out (by omega)).mono ?_; rintro e w3 ⟨rfl, hk3⟩)
          have hB1_3 := Kept.trans (Kept.alloc hB1_2 _) hk3
          have hB3_3 := hk3
          obtain ⟨hc1_3, hf1_3⟩ := kept_cells hB1_3
          have hz1_0_3 : w.heap.size < w3.heap.size := by have := hB1_3.size; simp at this; omega
          obtain ⟨hc3_3, hf3_3⟩ := kept_cells hB3_3
          have hz3_0_3 : w2.heap.size < w3.heap.size := by have := hB3_3.size; simp at this; omega
          go_wp2_with fail
          (go_at_call 19; refine (Shift_all _ _ _ _ _ _ _ _ _ _ (KT.out _ (by repeat (first | with_reducible exact Kept.refl _ | with_reducible assumption | with_reducible refine Kept.drew ?_ | with_reducible refine Kept.drewN ?_ _ | with_reducible refine Kept.alloc ?_ _ | (with_reducible refine Kept.setCell ?_ (by first | exact Nat.le_refl _ | omega | (simp; done) | (simp; omega)) _) | (with_reducible refine Kept.trans ?_ (by with_reducible assumption))))) HZ.out (by omega)).mono ?_; rintro e w4 ⟨rfl, hk4⟩)
          have hB1_4 := Kept.trans (Kept.alloc hB1_3 _) hk4
          have hB3_4 := Kept.trans (Kept.alloc hB3_3 _) hk4
          have hB4_4 := hk4
          obtain ⟨hc1_4, hf1_4⟩ := kept_cells hB1_4
          have hz1_0_4 : w.heap.size < w4.heap.size := by have := hB1_4.size; simp at this; omega
          obtain ⟨hc3_4, hf3_4⟩ := kept_cells hB3_4
          have hz3_0_4 : w2.heap.size < w4.heap.size := by have := hB3_4.size; simp at this; omega
          obtain ⟨hc4_4, hf4_4⟩ := kept_cells hB4_4
          have hz4_0_4 : w3.heap.size < w4.heap.size := by have := hB4_4.size; simp at this; omega
          go_wp2_with fail
          (go_at_call 19; refine (Shift_all _ _ _ _ _ _ _ _ _ _ (KT.out _ (by repeat (first | with_reducible exact Kept.refl _ | with_reducible assumption | with_reducible refine Kept.drew ?_ | with_reducible refine Kept.drewN ?_ _ | with_reducible refine Kept.alloc ?_ _ | (with_reducible refine Kept.setCell ?_ (by first | exact Nat.le_refl _ | omega | (simp; done) | (simp; omega)) _) | (with_reducible refine Kept.trans ?_ (by with_reducible assumption))))) HN.out (by omega)).mono ?_; rintro e w5 ⟨rfl, hk5⟩)
          have hB1_5 := Kept.trans (Kept.alloc hB1_4 _) hk5
          have hB3_5 := Kept.trans (Kept.alloc hB3_4 _) hk5
          have hB4_5 := Kept.trans (Kept.alloc hB4_4 _) hk5
          have hB5_5 := hk5
          obtain ⟨hc1_5, hf1_5⟩ := kept_cells hB1_5
          have hz1_0_5 : w.heap.size < w5.heap.size := by have := hB1_5.size; simp at this; omega
          obtain ⟨hc3_5, hf3_5⟩ := kept_cells hB3_5
          have hz3_0_5 : w2.heap.size < w5.heap.size := by have := hB3_5.size; simp at this; omega
          obtain ⟨hc4_5, hf4_5⟩ := kept_cells hB4_5
          have hz4_0_5 : w3.heap.size < w5.heap.size := by have := hB4_5.size; simp at this; omega
          obtain ⟨hc5_5, hf5_5⟩ := kept_cells hB5_5
          have hz5_0_5 : w4.heap.size < w5.heap.size := by have := hB5_5.size; simp at this; omega
          go_wp2_with fail
          go_region_held3 (fun w' => Kept (w5.alloc (.cells #[.int .i64 n1, .int .i64 (m + 1), .int .i64 1] 23)) w' ∧ (∀ b o, b < (w5.alloc (.cells #[.int .i64 n1, .int .i64 (m + 1), .int .i64 1] 23)).heap.size → w'.cell? ⟨b, o, none⟩ = (w5.alloc (.cells #[.int .i64 n1, .int .i64 (m + 1), .int .i64 1] 23)).cell? ⟨b, o, none⟩)) (first | exact held_of (Kept.drew (Kept.refl _)) | exact held_of (Kept.trans (And.left (by assumption)) (by assumption))) (first | (go_at_call 21; refine (refLeap_any _ _ _ (by omega) (by omega)).mono ?_; rintro e w1 ⟨rfl, rfl⟩) | (go_at_call 20; refine (Next_month _ _ _ _ _ y2 m1 q2 q1).mono ?_; rintro e w1 ⟨rfl, hk1⟩))
          go_wp2
          go_ret
          exact ⟨rfl, (by repeat (first | with_reducible exact Kept.refl _ | with_reducible assumption | with_reducible refine Kept.drew ?_ | with_reducible refine Kept.drewN ?_ _ | with_reducible refine Kept.alloc ?_ _ | (with_reducible refine Kept.setCell ?_ (by first | exact Nat.le_refl _ | omega | (simp; done) | (simp; omega)) _) | (with_reducible refine Kept.trans ?_ (by with_reducible assumption))))⟩
        · clear hon hnn ho hsn hk
          go_enter Tryd.func5, Tryd.ntmps5
          go_wp2_with fail
          (go_at_call 13; refine (Civ_awake _ (KT.out _ (by repeat (first | with_reducible exact Kept.refl _ | with_reducible assumption | with_reducible refine Kept.drew ?_ | with_reducible refine Kept.drewN ?_ _ | with_reducible refine Kept.alloc ?_ _ | (with_reducible refine Kept.setCell ?_ (by first | exact Nat.le_refl _ | omega | (simp; done) | (simp; omega)) _) | (with_reducible refine Kept.trans ?_ (by with_reducible assumption)))))).mono ?_; rintro e w1 ⟨rfl, hk1⟩)
          have hB1_1 := hk1
          obtain ⟨hc1_1, hf1_1⟩ := kept_cells hB1_1
          have hz1_0_1 : w.heap.size < w1.heap.size := by have := hB1_1.size; simp at this; omega
          go_wp2_with fail
          (go_at_call 19; refine (Shift_all _ _ _ _ _ _ _ _ _ _ (KT.out _ (by repeat (first | with_reducible exact Kept.refl _ | with_reducible assumption | with_reducible refine Kept.drew ?_ | with_reducible refine Kept.drewN ?_ _ | with_reducible refine Kept.alloc ?_ _ | (with_reducible refine Kept.setCell ?_ (by first | exact Nat.le_refl _ | omega | (simp; done) | (simp; omega)) _) | (with_reducible refine Kept.trans ?_ (by with_reducible assumption))))) HX.out (by omega)).mono ?_; rintro e w2 ⟨rfl, hk2⟩)
          have hB1_2 := Kept.trans hB1_1 hk2
          obtain ⟨hc1_2, hf1_2⟩ := kept_cells hB1_2
          have hz1_0_2 : w.heap.size < w2.heap.size := by have := hB1_2.size; simp at this; omega
          go_wp2_with fail
          (go_at_call 19; refine (Shift_all _ _ _ _ _ _ _ _ _ _ (KT.out _ (by repeat (first | with_reducible exact Kept.refl _ | with_reducible assumption | with_reducible refine Kept.drew ?_ | with_reducible refine Kept.drewN ?_ _ | with_reducible refine Kept.alloc ?_ _ | (with_reducible refine Kept.setCell ?_ (by first | exact Nat.le_refl _ | omega | (simp; done) | (simp; omega)) _) | (with_reducible refine Kept.trans ?_ (by with_reducible assumption))))) HB.out (by omega)).mono ?_; rintro e w3 ⟨rfl, hk3⟩)
          have hB1_3 := Kept.trans (Kept.alloc hB1_2 _) hk3
          have hB3_3 := hk3
          obtain ⟨hc1_3, hf1_3⟩ := kept_cells hB1_3
          have hz1_0_3 : w.heap.size < w3.heap.size := by have := hB1_3.size; simp at this; omega
          obtain ⟨hc3_3, hf3_3⟩ := kept_cells hB3_3
          have hz3_0_3 : w2.heap.size < w3.heap.size := by have := hB3_3.size; simp at this; omega
          go_wp2_with fail
          (go_at_call 19; refine (Shift_all _ _ _ _ _ _ _ _ _ _ (KT.out _ (by repeat (first | with_reducible exact Kept.refl _ | with_reducible assumption | with_reducible refine Kept.drew ?_ | with_reducible refine Kept.drewN ?_ _ | with_reducible refine Kept.alloc ?_ _ | (with_reducible refine Kept.setCell ?_ (by first | exact Nat.le_refl _ | omega | (simp; done) | (simp; omega)) _) | (with_reducible refine Kept.trans ?_ (by with_reducible assumption))))) HZ.out (by omega)).mono ?_; rintro e w4 ⟨rfl, hk4⟩)
          have hB1_4 := Kept.trans (Kept.alloc hB1_3 _) hk4
          have hB3_4 := Kept.trans (Kept.alloc hB3_3 _) hk4
          have hB4_4 := hk4
          obtain ⟨hc1_4, hf1_4⟩ := kept_cells hB1_4
          have hz1_0_4 : w.heap.size < w4.heap.size := by have := hB1_4.size; simp at this; omega
          obtain ⟨hc3_4, hf3_4⟩ := kept_cells hB3_4
          have hz3_0_4 : w2.heap.size < w4.heap.size := by have := hB3_4.size; simp at this; omega
          obtain ⟨hc4_4, hf4_4⟩ := kept_cells hB4_4
          have hz4_0_4 : w3.heap.size < w4.heap.size := by have := hB4_4.size; simp at this; omega
          go_wp2_with fail
          (go_at_call 19; refine (Shift_all _ _ _ _ _ _ _ _ _ _ (KT.out _ (by repeat (first | with_reducible exact Kept.refl _ | with_reducible assumption | with_reducible refine Kept.drew ?_ | with_reducible refine Kept.drewN ?_ _ | with_reducible refine Kept.alloc ?_ _ | (with_reducible refine Kept.setCell ?_ (by first | exact Nat.le_refl _ | omega | (simp; done) | (simp; omega)) _) | (with_reducible refine Kept.trans ?_ (by with_reducible assumption))))) HN.out (by omega)).mono ?_; rintro e w5 ⟨rfl, hk5⟩)
          have hB1_5 := Kept.trans (Kept.alloc hB1_4 _) hk5
          have hB3_5 := Kept.trans (Kept.alloc hB3_4 _) hk5
          have hB4_5 := Kept.trans (Kept.alloc hB4_4 _) hk5
          have hB5_5 := hk5
          obtain ⟨hc1_5, hf1_5⟩ := kept_cells hB1_5
          have hz1_0_5 : w.heap.size < w5.heap.size := by have := hB1_5.size; simp at this; omega
          obtain ⟨hc3_5, hf3_5⟩ := kept_cells hB3_5
          have hz3_0_5 : w2.heap.size < w5.heap.size := by have := hB3_5.size; simp at this; omega
          obtain ⟨hc4_5, hf4_5⟩ := kept_cells hB4_5
          have hz4_0_5 : w3.heap.size < w5.heap.size := by have := hB4_5.size; simp at this; omega
          obtain ⟨hc5_5, hf5_5⟩ := kept_cells hB5_5
          have hz5_0_5 : w4.heap.size < w5.heap.size := by have := hB5_5.size; simp at this; omega
          go_wp2_with fail
          go_region_held3 (fun w' => Kept (w5.alloc (.cells #[.int .i64 (y + 1), .int .i64 1, .int .i64 1] 23)) w' ∧ (∀ b o, b < (w5.alloc (.cells #[.int .i64 (y + 1), .int .i64 1, .int .i64 1] 23)).heap.size → w'.cell? ⟨b, o, none⟩ = (w5.alloc (.cells #[.int .i64 (y + 1), .int .i64 1, .int .i64 1] 23)).cell? ⟨b, o, none⟩)) (first | exact held_of (Kept.drew (Kept.refl _)) | exact held_of (Kept.trans (And.left (by assumption)) (by assumption))) (first | (go_at_call 21; refine (refLeap_any _ _ _ (by omega) (by omega)).mono ?_; rintro e w1 ⟨rfl, rfl⟩) | (go_at_call 20; refine (Next_year _ _ _ _ _ y1 y2 q2 q1).mono ?_; rintro e w1 ⟨rfl, hk1⟩))
          go_wp2
          go_ret
          exact ⟨rfl, (by repeat (first | with_reducible exact Kept.refl _ | with_reducible assumption | with_reducible refine Kept.drew ?_ | with_reducible refine Kept.drewN ?_ _ | with_reducible refine Kept.alloc ?_ _ | (with_reducible refine Kept.setCell ?_ (by first | exact Nat.le_refl _ | omega | (simp; done) | (simp; omega)) _) | (with_reducible refine Kept.trans ?_ (by with_reducible assumption))))⟩
      · clear ho hsn hk
        go_enter Tryd.func5, Tryd.ntmps5
        go_wp2_with fail
        (go_at_call 13; refine (Civ_awake _ (KT.out _ (by repeat (first | with_reducible exact Kept.refl _ | with_reducible assumption | with_reducible refine Kept.drew ?_ | with_reducible refine Kept.drewN ?_ _ | with_reducible refine Kept.alloc ?_ _ | (with_reducible refine Kept.setCell ?_ (by first | exact Nat.le_refl _ | omega | (simp; done) | (simp; omega)) _) | (with_reducible refine Kept.trans ?_ (by with_reducible assumption)))))).mono ?_; rintro e w1 ⟨rfl, hk1⟩)
        have hB1_1 := hk1
        obtain ⟨hc1_1, hf1_1⟩ := kept_cells hB1_1
        have hz1_0_1 : w.heap.size < w1.heap.size := by have := hB1_1.size; simp at this; omega
        go_wp2_with fail
        (go_at_call 19; refine (Shift_all _ _ _ _ _ _ _ _ _ _ (KT.out _ (by repeat (first | with_reducible exact Kept.refl _ | with_reducible assumption | with_reducible refine Kept.drew ?_ | with_reducible refine Kept.drewN ?_ _ | with_reducible refine Kept.alloc ?_ _ | (with_reducible refine Kept.setCell ?_ (by first | exact Nat.le_refl _ | omega | (simp; done) | (simp; omega)) _) | (with_reducible refine Kept.trans ?_ (by with_reducible assumption))))) HX.out (by omega)).mono ?_; rintro e w2 ⟨rfl, hk2⟩)
        have hB1_2 := Kept.trans hB1_1 hk2
        obtain ⟨hc1_2, hf1_2⟩ := kept_cells hB1_2
        have hz1_0_2 : w.heap.size < w2.heap.size := by have := hB1_2.size; simp at this; omega
        go_wp2_with fail
        (go_at_call 19; refine (Shift_all _ _ _ _ _ _ _ _ _ _ (KT.out _ (by repeat (first | with_reducible exact Kept.refl _ | with_reducible assumption | with_reducible refine Kept.drew ?_ | with_reducible refine Kept.drewN ?_ _ | with_reducible refine Kept.alloc ?_ _ | (with_reducible refine Kept.setCell ?_ (by first | exact Nat.le_refl _ | omega | (simp; done) | (simp; omega)) _) | (with_reducible refine Kept.trans ?_ (by with_reducible assumption))))) HB.out (by omega)).mono ?_; rintro e w3 ⟨rfl, hk3⟩)
        have hB1_3 := Kept.trans (Kept.alloc hB1_2 _) hk3
        have hB3_3 := hk3
        obtain ⟨hc1_3, hf1_3⟩ := kept_cells hB1_3
        have hz1_0_3 : w.heap.size < w3.heap.size := by have := hB1_3.size; simp at this; omega
        obtain ⟨hc3_3, hf3_3⟩ := kept_cells hB3_3
        have hz3_0_3 : w2.heap.size < w3.heap.size := by have := hB3_3.size; simp at this; omega
        go_wp2_with fail
        (go_at_call 19; refine (Shift_all _ _ _ _ _ _ _ _ _ _ (KT.out _ (by repeat (first | with_reducible exact Kept.refl _ | with_reducible assumption | with_reducible refine Kept.drew ?_ | with_reducible refine Kept.drewN ?_ _ | with_reducible refine Kept.alloc ?_ _ | (with_reducible refine Kept.setCell ?_ (by first | exact Nat.le_refl _ | omega | (simp; done) | (simp; omega)) _) | (with_reducible refine Kept.trans ?_ (by with_reducible assumption))))) HZ.out (by omega)).mono ?_; rintro e w4 ⟨rfl, hk4⟩)
        have hB1_4 := Kept.trans (Kept.alloc hB1_3 _) hk4
        have hB3_4 := Kept.trans (Kept.alloc hB3_3 _) hk4
        have hB4_4 := hk4
        obtain ⟨hc1_4, hf1_4⟩ := kept_cells hB1_4
        have hz1_0_4 : w.heap.size < w4.heap.size := by have := hB1_4.size; simp at this; omega
        obtain ⟨hc3_4, hf3_4⟩ := kept_cells hB3_4
        have hz3_0_4 : w2.heap.size < w4.heap.size := by have := hB3_4.size; simp at this; omega
        obtain ⟨hc4_4, hf4_4⟩ := kept_cells hB4_4
        have hz4_0_4 : w3.heap.size < w4.heap.size := by have := hB4_4.size; simp at this; omega
        go_wp2_with fail
        (go_at_call 19; refine (Shift_all _ _ _ _ _ _ _ _ _ _ (KT.out _ (by repeat (first | with_reducible exact Kept.refl _ | with_reducible assumption | with_reducible refine Kept.drew ?_ | with_reducible refine Kept.drewN ?_ _ | with_reducible refine Kept.alloc ?_ _ | (with_reducible refine Kept.setCell ?_ (by first | exact Nat.le_refl _ | omega | (simp; done) | (simp; omega)) _) | (with_reducible refine Kept.trans ?_ (by with_reducible assumption))))) HN.out (by omega)).mono ?_; rintro e w5 ⟨rfl, hk5⟩)
        have hB1_5 := Kept.trans (Kept.alloc hB1_4 _) hk5
        have hB3_5 := Kept.trans (Kept.alloc hB3_4 _) hk5
        have hB4_5 := Kept.trans (Kept.alloc hB4_4 _) hk5
        have hB5_5 := hk5
        obtain ⟨hc1_5, hf1_5⟩ := kept_cells hB1_5
        have hz1_0_5 : w.heap.size < w5.heap.size := by have := hB1_5.size; simp at this; omega
        obtain ⟨hc3_5, hf3_5⟩ := kept_cells hB3_5
        have hz3_0_5 : w2.heap.size < w5.heap.size := by have := hB3_5.size; simp at this; omega
        obtain ⟨hc4_5, hf4_5⟩ := kept_cells hB4_5
        have hz4_0_5 : w3.heap.size < w5.heap.size := by have := hB4_5.size; simp at this; omega
        obtain ⟨hc5_5, hf5_5⟩ := kept_cells hB5_5
        have hz5_0_5 : w4.heap.size < w5.heap.size := by have := hB5_5.size; simp at this; omega
        go_wp2_with fail
        go_quiet (fail)
        go_wp2
        go_ret
        exact ⟨rfl, (by repeat (first | with_reducible exact Kept.refl _ | with_reducible assumption | with_reducible refine Kept.drew ?_ | with_reducible refine Kept.drewN ?_ _ | with_reducible refine Kept.alloc ?_ _ | (with_reducible refine Kept.setCell ?_ (by first | exact Nat.le_refl _ | omega | (simp; done) | (simp; omega)) _) | (with_reducible refine Kept.trans ?_ (by with_reducible assumption))))⟩
    · clear hsx
      go_enter Tryd.func5, Tryd.ntmps5
      go_wp2_with fail
      (go_at_call 13; refine (Civ_awake _ (KT.out _ (by repeat (first | with_reducible exact Kept.refl _ | with_reducible assumption | with_reducible refine Kept.drew ?_ | with_reducible refine Kept.drewN ?_ _ | with_reducible refine Kept.alloc ?_ _ | (with_reducible refine Kept.setCell ?_ (by first | exact Nat.le_refl _ | omega | (simp; done) | (simp; omega)) _) | (with_reducible refine Kept.trans ?_ (by with_reducible assumption)))))).mono ?_; rintro e w1 ⟨rfl, hk1⟩)
      have hB1_1 := hk1
      obtain ⟨hc1_1, hf1_1⟩ := kept_cells hB1_1
      have hz1_0_1 : w.heap.size < w1.heap.size := by have := hB1_1.size; simp at this; omega
      go_wp2_with fail
      (go_at_call 19; refine (Shift_all _ _ _ _ _ _ _ _ _ _ (KT.out _ (by repeat (first | with_reducible exact Kept.refl _ | with_reducible assumption | with_reducible refine Kept.drew ?_ | with_reducible refine Kept.drewN ?_ _ | with_reducible refine Kept.alloc ?_ _ | (with_reducible refine Kept.setCell ?_ (by first | exact Nat.le_refl _ | omega | (simp; done) | (simp; omega)) _) | (with_reducible refine Kept.trans ?_ (by with_reducible assumption))))) HX.out (by omega)).mono ?_; rintro e w2 ⟨rfl, hk2⟩)
      have hB1_2 := Kept.trans hB1_1 hk2
      obtain ⟨hc1_2, hf1_2⟩ := kept_cells hB1_2
      have hz1_0_2 : w.heap.size < w2.heap.size := by have := hB1_2.size; simp at this; omega
      go_wp2
      go_ret
      exact ⟨rfl, (by repeat (first | with_reducible exact Kept.refl _ | with_reducible assumption | with_reducible refine Kept.drew ?_ | with_reducible refine Kept.drewN ?_ _ | with_reducible refine Kept.alloc ?_ _ | (with_reducible refine Kept.setCell ?_ (by first | exact Nat.le_refl _ | omega | (simp; done) | (simp; omega)) _) | (with_reducible refine Kept.trans ?_ (by with_reducible assumption))))⟩

set_option maxRecDepth 100000 in
theorem CivilShift_contract (H : Type) (enc : TypeId × Value → H) (W : World) (base : Nat) (args : Array Value) (ds gs : List (DataW H)) (before : List MemPlace)
    (hval : ∀ (j : Nat) t v, Tryd.f5.params[j]? = some t → args[j]? = some v → Value.okWide Tryd.prog W .any base t v)
    (hW : DataW.Whole enc Tryd.prog Tryd.f5.params.toList Rows.civilShiftSpec.vars false W args.toList ds gs before) (hL : laidMetH Tryd.prog Rows.civilShiftRow.laid W) :
    Calls Tryd.prog 5 args W fun e W' => ∃ v, e = .returned v ∧ Rows.civilShiftSpec.post enc Tryd.prog Tryd.f5 false true false false W args v W' := by
  have hW' := hW
  obtain ⟨p, q, hA0, hV, rfl, hfz, hnd⟩ := hW
  have hA : DataW.TrodAll enc Tryd.prog W 0 (fun _ => true) true Tryd.f5.params.toList args.toList ds p := hA0
  rw [Tryd.params5] at hA hval
  obtain ⟨v0, vs0, d0, ds0, p0, q0, hargs, rfl, rfl, h0, r0⟩ := trodAll_cons hA
  obtain ⟨v1, vs1, d1, ds1, p1, q1, rfl, rfl, rfl, h1, r1⟩ := trodAll_cons r0
  obtain ⟨v2, vs2, d2, ds2, p2, q2, rfl, rfl, rfl, h2, r2⟩ := trodAll_cons r1
  obtain ⟨v3, vs3, d3, ds3, p3, q3, rfl, rfl, rfl, h3, r3⟩ := trodAll_cons r2
  obtain ⟨rfl, rfl, rfl⟩ := trodAll_nil r3
  obtain rfl : args = #[v0, v1, v2, v3] := by cases args; simp_all
  obtain ⟨rfl, rfl⟩ := trodVars_none hV
  obtain ⟨a0, rfl, rfl, rfl, w0⟩ := open_int Tryd.underlying5 (hval 0 5 v0 rfl rfl) h0
  obtain ⟨c10, c11, c12, y10, y11, y12, m1, rfl, rfl, rfl, hy10, hy11, hy12⟩ := open_agg3 Tryd.underlying23 (by kernel_rfl) cells_Date (hval 1 23 v1 rfl rfl) h1
  obtain ⟨a10, e10, rfl, w10⟩ := DataW.trod_int Tryd.underlying3 hy10
  obtain ⟨a11, e11, rfl, w11⟩ := DataW.trod_int Tryd.underlying3 hy11
  obtain ⟨a12, e12, rfl, w12⟩ := DataW.trod_int Tryd.underlying3 hy12
  simp at e10 e11 e12
  subst e10 e11 e12
  obtain ⟨a2, rfl, rfl, rfl, w2⟩ := open_int Tryd.underlying21 (hval 2 21 v2 rfl rfl) h2
  obtain ⟨a3, rfl, rfl, rfl, w3⟩ := open_int Tryd.underlying21 (hval 3 21 v3 rfl rfl) h3
  clear hA0
  simp only [List.append_nil] at hW'
  refine (CivilShift_walk a0 a10 a11 a12 a2 a3 (wf_bounds8 w0) (wf_bounds w10) (wf_bounds w11) (wf_bounds w12) (wf_bounds32 w2) (wf_bounds32 w3) W (tab_of hL)).mono fun e W' ⟨he, hg⟩ => ?_
  subst he
  exact ⟨_, rfl, post_of_kept (pa := []) (pv := []) hW' (fun _ _ _ => (trodAll_cons_mk (shut_bool Tryd.underlying4 _) trodAll_mk0)) (fun sp _ => (trodAll_cons_mk (shut_int Tryd.underlying5 w0) (trodAll_cons_mk (shut_agg3 (y0 := (.lit (.int .i64 a10), [])) (y1 := (.lit (.int .i64 a11), [])) (y2 := (.lit (.int .i64 a12), [])) Tryd.underlying23 (by kernel_rfl) cells_Date ⟨1, by simp [DataW.trod, Tryd.underlying3, w10]⟩ ⟨1, by simp [DataW.trod, Tryd.underlying3, w11]⟩ ⟨1, by simp [DataW.trod, Tryd.underlying3, w12]⟩) (trodAll_cons_mk (shut_int Tryd.underlying21 w2) (trodAll_cons_mk (shut_int Tryd.underlying21 w3) trodAll_mk0))))) (fun _ _ => rfl) rfl
    hg (ok_one (by kernel_rfl) rfl (okWide_bool_mk Tryd.underlying4 _))⟩
theorem CivilShift_laid (os : Os) : laidMet Tryd.prog Rows.civilShiftRow.laid ((laidWorld os).forCall (fun _ _ => 0) ⟨#[], #[.int .u8 0, .agg #[.int .i64 0, .int .i64 0, .int .i64 0], .int .i32 0, .int .i32 0], []⟩).memory :=
  laidMet_of_run' 8 (by kernel_rfl) (by kernel_rfl)
theorem CivilShift_reads (os : Os) {H : Type} (enc : TypeId × Value → H) : ∃ places, DataW.whole enc Tryd.prog ((laidWorld os).forCall (fun _ _ => 0) ⟨#[], #[.int .u8 0, .agg #[.int .i64 0, .int .i64 0, .int .i64 0], .int .i32 0, .int .i32 0], []⟩).memory Tryd.f5.params.toList Rows.civilShiftSpec.vars false (#[.int .u8 0, .agg #[.int .i64 0, .int .i64 0, .int .i64 0], .int .i32 0, .int .i32 0] : Array Value).toList 8 = some ([.lit (.int .u8 0), .agg [.lit (.int .i64 0), .lit (.int .i64 0), .lit (.int .i64 0)], .lit (.int .i32 0), .lit (.int .i32 0)], [], places) :=
  ⟨[], by kernel_rfl⟩
set_option maxRecDepth 100000 in
theorem CivilShift_lifted (os : Os) (started : os.Started) (H : Type) (enc : TypeId × Value → H) (F : Stop.Interp) :
    ReturnsInHanded {} Tryd.checked os 5 .any ((OpenSpec.ofChange Rows.civilShiftSpec).preRow enc Tryd.prog Tryd.f5 Rows.civilShiftRow.domain false Rows.civilShiftRow.laid) (((OpenSpec.ofChange Rows.civilShiftSpec).at F).post enc Tryd.prog Tryd.f5 false true false false) := by
  obtain ⟨places, hx⟩ := CivilShift_reads os enc
  refine returnsInHanded_of_row (C := Tryd.checked) (s := OpenSpec.ofChange Rows.civilShiftSpec) own_knob started (by kernel_rfl) Tryd.func5
    (witness_row_at (enc := enc) (C := Tryd.checked) false (laidWorld os) #[.int .u8 0, .agg #[.int .i64 0, .int .i64 0, .int .i64 0], .int .i32 0, .int .i32 0] rfl (by kernel_rfl) (by kernel_rfl) (by kernel_rfl)
      (OpenSpec.preRow_of_cond 8 hx (by kernel_rfl) (fun k hk => by cases hk) (by kernel_rfl) (CivilShift_laid os))) ?_
  intro W base args ds gs before hval hW _ _ _ hL _ _
  exact CivilShift_contract H enc W base args ds gs before hval hW hL
theorem CivilShift_said : Rows.CivilShiftSaid :=
  OpenClaim.holds_of_cond 5 Tryd.f5 rfl rfl rfl rfl rfl rfl rfl ⟨rfl, rfl, rfl, rfl, rfl⟩ rfl rfl rfl rfl rfl (by kernel_rfl) Tryd.func5 (by kernel_rfl)
    (of_decide_eq_true (by kernel_rfl)) (by unfold Func.isWrapper; first | (rw [if_pos (by decide +kernel)]; kernel_rfl) | (rw [if_neg (by decide +kernel)]; exact ⟨rfl, rfl⟩))
    (fun os started H enc _ F => by rw [OpenClaim.pre_eq_preRow]; exact CivilShift_lifted os started H enc F)
theorem CivilShift_plain (f : FuncId) (fn : Func) (hf : Tryd.pinned.checked.prog.funcNamed "computus/computuslaw05.CivilShift" = some f) (hfn : Tryd.pinned.checked.prog.funcs[f]? = some fn) :
    false = Tryd.pinned.checked.prog.looks [] ∧ ∀ (j : Nat) t, fn.params[j]? = some t → Tryd.pinned.checked.prog.wantsStandIn t = false := by
  obtain rfl : f = 5 := Option.some.inj ((show Tryd.prog.funcNamed "computus/computuslaw05.CivilShift" = some 5 by kernel_rfl).symm.trans hf) |>.symm
  obtain rfl : fn = Tryd.f5 := (Option.some.inj (Tryd.func5.symm.trans hfn)).symm
  refine ⟨by kernel_rfl, fun j t ht => ?_⟩
  rw [Tryd.params5] at ht
  have hm : t ∈ [5, 23, 21, 21] := by simpa using Array.mem_of_getElem? ht
  have hall : ([5, 23, 21, 21].all fun u => !Tryd.prog.wantsStandIn u) = true := by kernel_rfl
  exact (show Tryd.prog.wantsStandIn t = false by simpa using List.all_eq_true.1 hall t hm)
theorem CivilShift_proved : Rows.CivilShiftCardSaid :=
  Claim7.holds_tied_plain_at .later [] _ _ _ _ CivilShift_said (fun _ h => by cases h) (by kernel_rfl) (fun _ h => by cases h) civilShift_row_tie rfl ⟨rfl, rfl⟩ (by kernel_rfl) rfl CivilShift_plain (by kernel_rfl)
#print axioms CivilShift_proved
end Go.Proofs.YtcfgiboknkkheaaDoor

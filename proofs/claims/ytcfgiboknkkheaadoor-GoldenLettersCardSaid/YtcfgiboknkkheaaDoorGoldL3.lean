/- 'Rows.GoldenLettersCardSaid': for both calendars and every date, a day is a Sunday exactly if its day of the year, or one less from the leap day on, leaves the remainder of the letter modulo 7. No condition but that julian.lengths lies as the program's text lays it, which the card ties. -/
import Derived.Test.YtcfgiboknkkheaaDoorGoldRef
import Derived.Test.YtcfgiboknkkheaaDoorDate
import Derived.Lib.SmallJoins
set_option linter.unusedSimpArgs false
set_option linter.unusedVariables false
set_option linter.unusedSectionVars false
namespace Go.Proofs.YtcfgiboknkkheaaDoor
open Go.ChangeShapes Go.WideShapes Go.ChangeAt Go.RowKit Go.Joins
set_option maxHeartbeats 2000000

theorem letter_facts (k y m d : Int) (hk : IsCal k) (h : OkD k y m d) : cN k y m d = num k y m d ∧ cE k y m d = 0 ∧ ylE k y = 0 ∧ 1 ≤ oyN k y m d ∧ oyN k y m d ≤ 366 ∧ -1 ≤ num k y m d ∧ num k y m d ≤ 365249999999 ∧ 1 ≤ ltA k y ∧ ltA k y ≤ 7 ∧ 1 ≤ ltB k y ∧ ltB k y ≤ 7 ∧
    (m ≤ 2 → (num k y m d % 7 = 0 ↔ oyN k y m d % 7 = ltA k y % 7)) ∧ (2 < m → lp k y = true → (num k y m d % 7 = 0 ↔ (oyN k y m d - 1) % 7 = ltB k y % 7)) ∧ (lp k y = false → (num k y m d % 7 = 0 ↔ oyN k y m d % 7 = ltB k y % 7)) := by
  obtain ⟨h1, h2, h3, h4, h5, h6⟩ := id h
  have hc : cN k y m d = num k y m d ∧ cE k y m d = 0 := by
    rcases c_cases k y m d with ⟨_, _, a, b⟩ | ⟨_, _, _, a⟩
    · exact ⟨a, b⟩
    · exact absurd ⟨hk, h⟩ a
  have ho : oyN k y m d = cum (lp k y) m + d := if_pos hc.2
  have hn : num k y m d = fst k y + oyN k y m d - 1 := by rw [ho]; unfold num; omega
  have hm := cum_mono (lp k y) m 13 h3 (by omega) (by omega)
  have hc0 := cum_bounds (lp k y) m h3 (by omega)
  rw [cum_13] at hm
  have hl1 : (if lp k y then (1 : Int) else 0) ≤ 1 := by split <;> omega
  have hb := cN_bounds k y m d
  rw [hc.1] at hb
  rcases lt_cases k y with ⟨g, _⟩ | ⟨g, _, _, _, a, hlt⟩
  · rcases yl_cases k y with ⟨q, _⟩ | ⟨_, q, _⟩ | ⟨_, _, _, _, q⟩
    · exact absurd hk q
    · omega
    · omega
  · refine ⟨hc.1, hc.2, g, by omega, by omega, hb.1, hb.2, by omega, by omega, ?_, ?_, ?_, ?_, ?_⟩
    · rcases hlt with ⟨_, _, b⟩ | ⟨_, _, b⟩ <;> omega
    · rcases hlt with ⟨_, _, b⟩ | ⟨_, _, b⟩ <;> omega
    · intro _; omega
    · intro _ hl
      rcases hlt with ⟨_, _, b⟩ | ⟨b, _, _⟩
      · omega
      · rw [hl] at b; cases b
    · intro hl
      rcases hlt with ⟨b, _, _⟩ | ⟨_, _, b⟩
      · rw [hl] at b; cases b
      · omega
theorem GoldenLetters_walk (c y m d : Int) (_bc : 0 ≤ c ∧ c ≤ 255) (_by : -9223372036854775808 ≤ y ∧ y ≤ 9223372036854775807) (_bm : -9223372036854775808 ≤ m ∧ m ≤ 9223372036854775807) (_bd : -9223372036854775808 ≤ d ∧ d ≤ 9223372036854775807) (w : World) (hT : Tab w) :
    Calls Tryd.prog 8 #[.int .u8 c, .agg #[.int .i64 y, .int .i64 m, .int .i64 d]] w fun e w' => e = .returned (.bool true) ∧ Kept w w' := by
  clear _by _bm _bd
  obtain ⟨c1, c2⟩ := _bc
  have KT := Lib.hid (fun w' (k : Kept w w') => hT.kept k)
  clear hT
  rcases (show c % 2 = 0 ∨ c % 2 = 1 by omega) with hc | hc
  · by_cases ho : OkD 1 y m d
    · obtain ⟨e1, e2, e3, o1, o2, n1, n2, a1, a2, b1, b2, f1, f2, f3⟩ := letter_facts 1 y m d (.inl rfl) ho
      have KN := Lib.hid (fun w => refToDay_all 1 y m d w)
      rw [e1, e2] at KN
      have KA := Lib.hid (fun w hT => Letters_all 1 y w hT)
      rw [e3] at KA
      have KD := Lib.hid (fun w => refOfYear_all 1 y m d w)
      rw [e2] at KD
      have KL := Lib.hid (fun w => refLeap_any 1 y w (by have := ho.1; omega) (by have := ho.2.1; omega))
      have KO := Lib.hid (fun w => rWOf_any (num 1 y m d) w (by omega) (by omega))
      have r0 : 0 ≤ num 1 y m d % 7 := by omega
      clear e1 e2 e3 ho
      by_cases hm : m ≤ 2
      · have ff := f1 hm
        by_cases hz : num 1 y m d % 7 = 0
        · have hq : (oyN 1 y m d % 7 == ltA 1 y % 7) = true := by have := ff.1 hz; simpa using this
          rw [hz] at KO
          clear hz f1 f2 f3 ff
          go_enter Tryd.func8, Tryd.ntmps8
          go_wp2_with fail
          (go_at_call 22; refine (Gold_awake _ (KT.out _ (by repeat (first | with_reducible exact Kept.refl _ | with_reducible assumption | with_reducible refine Kept.drew ?_ | with_reducible refine Kept.drewN ?_ _ | with_reducible refine Kept.alloc ?_ _ | (with_reducible refine Kept.setCell ?_ (by first | exact Nat.le_refl _ | omega | (simp; done) | (simp; omega)) _) | (with_reducible refine Kept.trans ?_ (by with_reducible assumption)))))).mono ?_; rintro e w1 ⟨rfl, hk1⟩)
          have hB1_1 := hk1
          obtain ⟨hc1_1, hf1_1⟩ := kept_cells hB1_1
          have hz1_0_1 : w.heap.size < w1.heap.size := by have := hB1_1.size; simp at this; omega
          go_wp2_with fail
          (go_at_call 26; refine (KN.out _).mono ?_; rintro e w2 ⟨rfl, hk2⟩)
          have hB1_2 := Kept.trans hB1_1 hk2
          obtain ⟨hc1_2, hf1_2⟩ := kept_cells hB1_2
          have hz1_0_2 : w.heap.size < w2.heap.size := by have := hB1_2.size; simp at this; omega
          go_wp2_with fail
          (go_at_call 27; refine (KA.out _ (KT.out _ (by repeat (first | with_reducible exact Kept.refl _ | with_reducible assumption | with_reducible refine Kept.drew ?_ | with_reducible refine Kept.drewN ?_ _ | with_reducible refine Kept.alloc ?_ _ | (with_reducible refine Kept.setCell ?_ (by first | exact Nat.le_refl _ | omega | (simp; done) | (simp; omega)) _) | (with_reducible refine Kept.trans ?_ (by with_reducible assumption)))))).mono ?_; rintro e w3 ⟨rfl, hk3⟩)
          have hB1_3 := Kept.trans hB1_2 hk3
          obtain ⟨hc1_3, hf1_3⟩ := kept_cells hB1_3
          have hz1_0_3 : w.heap.size < w3.heap.size := by have := hB1_3.size; simp at this; omega
          go_wp2_with fail
          (go_at_call 28; refine (KD.out _).mono ?_; rintro e w4 ⟨rfl, hk4⟩)
          have hB1_4 := Kept.trans hB1_3 hk4
          obtain ⟨hc1_4, hf1_4⟩ := kept_cells hB1_4
          have hz1_0_4 : w.heap.size < w4.heap.size := by have := hB1_4.size; simp at this; omega
          go_wp2_with fail
          (go_at_call 29; refine (KO.out _).mono ?_; rintro e w1 ⟨rfl, rfl⟩)
          go_wp2
          go_ret
          exact ⟨by first | rfl | (simp; done) | (simp; omega), (by repeat (first | with_reducible exact Kept.refl _ | with_reducible assumption | with_reducible refine Kept.drew ?_ | with_reducible refine Kept.drewN ?_ _ | with_reducible refine Kept.alloc ?_ _ | (with_reducible refine Kept.setCell ?_ (by first | exact Nat.le_refl _ | omega | (simp; done) | (simp; omega)) _) | (with_reducible refine Kept.trans ?_ (by with_reducible assumption))))⟩
        · have hq : (oyN 1 y m d % 7 == ltA 1 y % 7) = false := by have := fun g => hz (ff.2 g); simpa using this
          have hr : 1 ≤ num 1 y m d % 7 := by omega
          clear hz f1 f2 f3 ff
          go_enter Tryd.func8, Tryd.ntmps8
          go_wp2_with fail
          (go_at_call 22; refine (Gold_awake _ (KT.out _ (by repeat (first | with_reducible exact Kept.refl _ | with_reducible assumption | with_reducible refine Kept.drew ?_ | with_reducible refine Kept.drewN ?_ _ | with_reducible refine Kept.alloc ?_ _ | (with_reducible refine Kept.setCell ?_ (by first | exact Nat.le_refl _ | omega | (simp; done) | (simp; omega)) _) | (with_reducible refine Kept.trans ?_ (by with_reducible assumption)))))).mono ?_; rintro e w1 ⟨rfl, hk1⟩)
          have hB1_1 := hk1
          obtain ⟨hc1_1, hf1_1⟩ := kept_cells hB1_1
          have hz1_0_1 : w.heap.size < w1.heap.size := by have := hB1_1.size; simp at this; omega
          go_wp2_with fail
          (go_at_call 26; refine (KN.out _).mono ?_; rintro e w2 ⟨rfl, hk2⟩)
          have hB1_2 := Kept.trans hB1_1 hk2
          obtain ⟨hc1_2, hf1_2⟩ := kept_cells hB1_2
          have hz1_0_2 : w.heap.size < w2.heap.size := by have := hB1_2.size; simp at this; omega
          go_wp2_with fail
          (go_at_call 27; refine (KA.out _ (KT.out _ (by repeat (first | with_reducible exact Kept.refl _ | with_reducible assumption | with_reducible refine Kept.drew ?_ | with_reducible refine Kept.drewN ?_ _ | with_reducible refine Kept.alloc ?_ _ | (with_reducible refine Kept.setCell ?_ (by first | exact Nat.le_refl _ | omega | (simp; done) | (simp; omega)) _) | (with_reducible refine Kept.trans ?_ (by with_reducible assumption)))))).mono ?_; rintro e w3 ⟨rfl, hk3⟩)
          have hB1_3 := Kept.trans hB1_2 hk3
          obtain ⟨hc1_3, hf1_3⟩ := kept_cells hB1_3
          have hz1_0_3 : w.heap.size < w3.heap.size := by have := hB1_3.size; simp at this; omega
          go_wp2_with fail
          (go_at_call 28; refine (KD.out _).mono ?_; rintro e w4 ⟨rfl, hk4⟩)
          have hB1_4 := Kept.trans hB1_3 hk4
          obtain ⟨hc1_4, hf1_4⟩ := kept_cells hB1_4
          have hz1_0_4 : w.heap.size < w4.heap.size := by have := hB1_4.size; simp at this; omega
          go_wp2_with fail
          (go_at_call 29; refine (KO.out _).mono ?_; rintro e w1 ⟨rfl, rfl⟩)
          go_wp2
          go_ret
          exact ⟨by first | rfl | (simp; done) | (simp; omega), (by repeat (first | with_reducible exact Kept.refl _ | with_reducible assumption | with_reducible refine Kept.drew ?_ | with_reducible refine Kept.drewN ?_ _ | with_reducible refine Kept.alloc ?_ _ | (with_reducible refine Kept.setCell ?_ (by first | exact Nat.le_refl _ | omega | (simp; done) | (simp; omega)) _) | (with_reducible refine Kept.trans ?_ (by with_reducible assumption))))⟩
      · have hm2 : 2 < m := by omega
        clear hm
        cases hl : lp 1 y
        · have ff := f3 hl
          rw [hl] at KL
          by_cases hz : num 1 y m d % 7 = 0
          · have hq : (oyN 1 y m d % 7 == ltB 1 y % 7) = true := by have := ff.1 hz; simpa using this
            rw [hz] at KO
            clear hz f1 f2 f3 ff hl
            go_enter Tryd.func8, Tryd.ntmps8
            go_wp2_with fail
            (go_at_call 22; refine (Gold_awake _ (KT.out _ (by repeat (first | with_reducible exact Kept.refl _ | with_reducible assumption | with_reducible refine Kept.drew ?_ | with_reducible refine Kept.drewN ?_ _ | with_reducible refine Kept.alloc ?_ _ | (with_reducible refine Kept.setCell ?_ (by first | exact Nat.le_refl _ | omega | (simp; done) | (simp; omega)) _) | (with_reducible refine Kept.trans ?_ (by with_reducible assumption)))))).mono ?_; rintro e w1 ⟨rfl, hk1⟩)
            have hB1_1 := hk1
            obtain ⟨hc1_1, hf1_1⟩ := kept_cells hB1_1
            have hz1_0_1 : w.heap.size < w1.heap.size := by have := hB1_1.size; simp at this; omega
            go_wp2_with fail
            (go_at_call 26; refine (KN.out _).mono ?_; rintro e w2 ⟨rfl, hk2⟩)
            have hB1_2 := Kept.trans hB1_1 hk2
            obtain ⟨hc1_2, hf1_2⟩ := kept_cells hB1_2
            have hz1_0_2 : w.heap.size < w2.heap.size := by have := hB1_2.size; simp at this; omega
            go_wp2_with fail
            (go_at_call 27; refine (KA.out _ (KT.out _ (by repeat (first | with_reducible exact Kept.refl _ | with_reducible assumption | with_reducible refine Kept.drew ?_ | with_reducible refine Kept.drewN ?_ _ | with_reducible refine Kept.alloc ?_ _ | (with_reducible refine Kept.setCell ?_ (by first | exact Nat.le_refl _ | omega | (simp; done) | (simp; omega)) _) | (with_reducible refine Kept.trans ?_ (by with_reducible assumption)))))).mono ?_; rintro e w3 ⟨rfl, hk3⟩)
            have hB1_3 := Kept.trans hB1_2 hk3
            obtain ⟨hc1_3, hf1_3⟩ := kept_cells hB1_3
            have hz1_0_3 : w.heap.size < w3.heap.size := by have := hB1_3.size; simp at this; omega
            go_wp2_with fail
            (go_at_call 28; refine (KD.out _).mono ?_; rintro e w4 ⟨rfl, hk4⟩)
            have hB1_4 := Kept.trans hB1_3 hk4
            obtain ⟨hc1_4, hf1_4⟩ := kept_cells hB1_4
            have hz1_0_4 : w.heap.size < w4.heap.size := by have := hB1_4.size; simp at this; omega
            go_wp2_with fail
            (go_at_call 21; refine (KL.out _).mono ?_; rintro e w1 ⟨rfl, rfl⟩)
            go_wp2_with fail
            (go_at_call 29; refine (KO.out _).mono ?_; rintro e w1 ⟨rfl, rfl⟩)
            go_wp2
            go_ret
            exact ⟨by first | rfl | (simp; done) | (simp; omega), (by repeat (first | with_reducible exact Kept.refl _ | with_reducible assumption | with_reducible refine Kept.drew ?_ | with_reducible refine Kept.drewN ?_ _ | with_reducible refine Kept.alloc ?_ _ | (with_reducible refine Kept.setCell ?_ (by first | exact Nat.le_refl _ | omega | (simp; done) | (simp; omega)) _) | (with_reducible refine Kept.trans ?_ (by with_reducible assumption))))⟩
          · have hq : (oyN 1 y m d % 7 == ltB 1 y % 7) = false := by have := fun g => hz (ff.2 g); simpa using this
            have hr : 1 ≤ num 1 y m d % 7 := by omega
            clear hz f1 f2 f3 ff hl
            go_enter Tryd.func8, Tryd.ntmps8
            go_wp2_with fail
            (go_at_call 22; refine (Gold_awake _ (KT.out _ (by repeat (first | with_reducible exact Kept.refl _ | with_reducible assumption | with_reducible refine Kept.drew ?_ | with_reducible refine Kept.drewN ?_ _ | with_reducible refine Kept.alloc ?_ _ | (with_reducible refine Kept.setCell ?_ (by first | exact Nat.le_refl _ | omega | (simp; done) | (simp; omega)) _) | (with_reducible refine Kept.trans ?_ (by with_reducible assumption)))))).mono ?_; rintro e w1 ⟨rfl, hk1⟩)
            have hB1_1 := hk1
            obtain ⟨hc1_1, hf1_1⟩ := kept_cells hB1_1
            have hz1_0_1 : w.heap.size < w1.heap.size := by have := hB1_1.size; simp at this; omega
            go_wp2_with fail
            (go_at_call 26; refine (KN.out _).mono ?_; rintro e w2 ⟨rfl, hk2⟩)
            have hB1_2 := Kept.trans hB1_1 hk2
            obtain ⟨hc1_2, hf1_2⟩ := kept_cells hB1_2
            have hz1_0_2 : w.heap.size < w2.heap.size := by have := hB1_2.size; simp at this; omega
            go_wp2_with fail
            (go_at_call 27; refine (KA.out _ (KT.out _ (by repeat (first | with_reducible exact Kept.refl _ | with_reducible assumption | with_reducible refine Kept.drew ?_ | with_reducible refine Kept.drewN ?_ _ | with_reducible refine Kept.alloc ?_ _ | (with_reducible refine Kept.setCell ?_ (by first | exact Nat.le_refl _ | omega | (simp; done) | (simp; omega)) _) | (with_reducible refine Kept.trans ?_ (by with_reducible assumption)))))).mono ?_; rintro e w3 ⟨rfl, hk3⟩)
            have hB1_3 := Kept.trans hB1_2 hk3
            obtain ⟨hc1_3, hf1_3⟩ := kept_cells hB1_3
            have hz1_0_3 : w.heap.size < w3.heap.size := by have := hB1_3.size; simp at this; omega
            go_wp2_with fail
            (go_at_call 28; refine (KD.out _).mono ?_; rintro e w4 ⟨rfl, hk4⟩)
            have hB1_4 := Kept.trans hB1_3 hk4
            obtain ⟨hc1_4, hf1_4⟩ := kept_cells hB1_4
            have hz1_0_4 : w.heap.size < w4.heap.size := by have := hB1_4.size; simp at this; omega
            go_wp2_with fail
            (go_at_call 21; refine (KL.out _).mono ?_; rintro e w1 ⟨rfl, rfl⟩)
            go_wp2_with fail
            (go_at_call 29; refine (KO.out _).mono ?_; rintro e w1 ⟨rfl, rfl⟩)
            go_wp2
            go_ret
            exact ⟨by first | rfl | (simp; done) | (simp; omega), (by repeat (first | with_reducible exact Kept.refl _ | with_reducible assumption | with_reducible refine Kept.drew ?_ | with_reducible refine Kept.drewN ?_ _ | with_reducible refine Kept.alloc ?_ _ | (with_reducible refine Kept.setCell ?_ (by first | exact Nat.le_refl _ | omega | (simp; done) | (simp; omega)) _) | (with_reducible refine Kept.trans ?_ (by with_reducible assumption))))⟩
        · have ff := f2 hm2 hl
          rw [hl] at KL
          by_cases hz : num 1 y m d % 7 = 0
          · have hq : ((oyN 1 y m d - 1) % 7 == ltB 1 y % 7) = true := by have := ff.1 hz; simpa using this
            rw [hz] at KO
            clear hz f1 f2 f3 ff hl
            go_enter Tryd.func8, Tryd.ntmps8
            go_wp2_with fail
            (go_at_call 22; refine (Gold_awake _ (KT.out _ (by repeat (first | with_reducible exact Kept.refl _ | with_reducible assumption | with_reducible refine Kept.drew ?_ | with_reducible refine Kept.drewN ?_ _ | with_reducible refine Kept.alloc ?_ _ | (with_reducible refine Kept.setCell ?_ (by first | exact Nat.le_refl _ | omega | (simp; done) | (simp; omega)) _) | (with_reducible refine Kept.trans ?_ (by with_reducible assumption)))))).mono ?_; rintro e w1 ⟨rfl, hk1⟩)
            have hB1_1 := hk1
            obtain ⟨hc1_1, hf1_1⟩ := kept_cells hB1_1
            have hz1_0_1 : w.heap.size < w1.heap.size := by have := hB1_1.size; simp at this; omega
            go_wp2_with fail
            (go_at_call 26; refine (KN.out _).mono ?_; rintro e w2 ⟨rfl, hk2⟩)
            have hB1_2 := Kept.trans hB1_1 hk2
            obtain ⟨hc1_2, hf1_2⟩ := kept_cells hB1_2
            have hz1_0_2 : w.heap.size < w2.heap.size := by have := hB1_2.size; simp at this; omega
            go_wp2_with fail
            (go_at_call 27; refine (KA.out _ (KT.out _ (by repeat (first | with_reducible exact Kept.refl _ | with_reducible assumption | with_reducible refine Kept.drew ?_ | with_reducible refine Kept.drewN ?_ _ | with_reducible refine Kept.alloc ?_ _ | (with_reducible refine Kept.setCell ?_ (by first | exact Nat.le_refl _ | omega | (simp; done) | (simp; omega)) _) | (with_reducible refine Kept.trans ?_ (by with_reducible assumption)))))).mono ?_; rintro e w3 ⟨rfl, hk3⟩)
            have hB1_3 := Kept.trans hB1_2 hk3
            obtain ⟨hc1_3, hf1_3⟩ := kept_cells hB1_3
            have hz1_0_3 : w.heap.size < w3.heap.size := by have := hB1_3.size; simp at this; omega
            go_wp2_with fail
            (go_at_call 28; refine (KD.out _).mono ?_; rintro e w4 ⟨rfl, hk4⟩)
            have hB1_4 := Kept.trans hB1_3 hk4
            obtain ⟨hc1_4, hf1_4⟩ := kept_cells hB1_4
            have hz1_0_4 : w.heap.size < w4.heap.size := by have := hB1_4.size; simp at this; omega
            go_wp2_with fail
            (go_at_call 21; refine (KL.out _).mono ?_; rintro e w1 ⟨rfl, rfl⟩)
            go_wp2_with fail
            (go_at_call 29; refine (KO.out _).mono ?_; rintro e w1 ⟨rfl, rfl⟩)
            go_wp2
            go_ret
            exact ⟨by first | rfl | (simp; done) | (simp; omega), (by repeat (first | with_reducible exact Kept.refl _ | with_reducible assumption | with_reducible refine Kept.drew ?_ | with_reducible refine Kept.drewN ?_ _ | with_reducible refine Kept.alloc ?_ _ | (with_reducible refine Kept.setCell ?_ (by first | exact Nat.le_refl _ | omega | (simp; done) | (simp; omega)) _) | (with_reducible refine Kept.trans ?_ (by with_reducible assumption))))⟩
          · have hq : ((oyN 1 y m d - 1) % 7 == ltB 1 y % 7) = false := by have := fun g => hz (ff.2 g); simpa using this
            have hr : 1 ≤ num 1 y m d % 7 := by omega
            clear hz f1 f2 f3 ff hl
            go_enter Tryd.func8, Tryd.ntmps8
            go_wp2_with fail
            (go_at_call 22; refine (Gold_awake _ (KT.out _ (by repeat (first | with_reducible exact Kept.refl _ | with_reducible assumption | with_reducible refine Kept.drew ?_ | with_reducible refine Kept.drewN ?_ _ | with_reducible refine Kept.alloc ?_ _ | (with_reducible refine Kept.setCell ?_ (by first | exact Nat.le_refl _ | omega | (simp; done) | (simp; omega)) _) | (with_reducible refine Kept.trans ?_ (by with_reducible assumption)))))).mono ?_; rintro e w1 ⟨rfl, hk1⟩)
            have hB1_1 := hk1
            obtain ⟨hc1_1, hf1_1⟩ := kept_cells hB1_1
            have hz1_0_1 : w.heap.size < w1.heap.size := by have := hB1_1.size; simp at this; omega
            go_wp2_with fail
            (go_at_call 26; refine (KN.out _).mono ?_; rintro e w2 ⟨rfl, hk2⟩)
            have hB1_2 := Kept.trans hB1_1 hk2
            obtain ⟨hc1_2, hf1_2⟩ := kept_cells hB1_2
            have hz1_0_2 : w.heap.size < w2.heap.size := by have := hB1_2.size; simp at this; omega
            go_wp2_with fail
            (go_at_call 27; refine (KA.out _ (KT.out _ (by repeat (first | with_reducible exact Kept.refl _ | with_reducible assumption | with_reducible refine Kept.drew ?_ | with_reducible refine Kept.drewN ?_ _ | with_reducible refine Kept.alloc ?_ _ | (with_reducible refine Kept.setCell ?_ (by first | exact Nat.le_refl _ | omega | (simp; done) | (simp; omega)) _) | (with_reducible refine Kept.trans ?_ (by with_reducible assumption)))))).mono ?_; rintro e w3 ⟨rfl, hk3⟩)
            have hB1_3 := Kept.trans hB1_2 hk3
            obtain ⟨hc1_3, hf1_3⟩ := kept_cells hB1_3
            have hz1_0_3 : w.heap.size < w3.heap.size := by have := hB1_3.size; simp at this; omega
            go_wp2_with fail
            (go_at_call 28; refine (KD.out _).mono ?_; rintro e w4 ⟨rfl, hk4⟩)
            have hB1_4 := Kept.trans hB1_3 hk4
            obtain ⟨hc1_4, hf1_4⟩ := kept_cells hB1_4
            have hz1_0_4 : w.heap.size < w4.heap.size := by have := hB1_4.size; simp at this; omega
            go_wp2_with fail
            (go_at_call 21; refine (KL.out _).mono ?_; rintro e w1 ⟨rfl, rfl⟩)
            go_wp2_with fail
            (go_at_call 29; refine (KO.out _).mono ?_; rintro e w1 ⟨rfl, rfl⟩)
            go_wp2
            go_ret
            exact ⟨by first | rfl | (simp; done) | (simp; omega), (by repeat (first | with_reducible exact Kept.refl _ | with_reducible assumption | with_reducible refine Kept.drew ?_ | with_reducible refine Kept.drewN ?_ _ | with_reducible refine Kept.alloc ?_ _ | (with_reducible refine Kept.setCell ?_ (by first | exact Nat.le_refl _ | omega | (simp; done) | (simp; omega)) _) | (with_reducible refine Kept.trans ?_ (by with_reducible assumption))))⟩
    · have hp : 1 ≤ cE 1 y m d := by
        rcases c_cases 1 y m d with ⟨_, p, _⟩ | ⟨_, p, _⟩
        · exact absurd p ho
        · exact p
      clear ho
      go_enter Tryd.func8, Tryd.ntmps8
      go_wp2_with fail
      (go_at_call 22; refine (Gold_awake _ (KT.out _ (by repeat (first | with_reducible exact Kept.refl _ | with_reducible assumption | with_reducible refine Kept.drew ?_ | with_reducible refine Kept.drewN ?_ _ | with_reducible refine Kept.alloc ?_ _ | (with_reducible refine Kept.setCell ?_ (by first | exact Nat.le_refl _ | omega | (simp; done) | (simp; omega)) _) | (with_reducible refine Kept.trans ?_ (by with_reducible assumption)))))).mono ?_; rintro e w1 ⟨rfl, hk1⟩)
      have hB1_1 := hk1
      obtain ⟨hc1_1, hf1_1⟩ := kept_cells hB1_1
      have hz1_0_1 : w.heap.size < w1.heap.size := by have := hB1_1.size; simp at this; omega
      go_wp2_with fail
      (go_at_call 26; refine (refToDay_all _ _ _ _ _).mono ?_; rintro e w2 ⟨rfl, hk2⟩)
      have hB1_2 := Kept.trans hB1_1 hk2
      obtain ⟨hc1_2, hf1_2⟩ := kept_cells hB1_2
      have hz1_0_2 : w.heap.size < w2.heap.size := by have := hB1_2.size; simp at this; omega
      go_wp2
      go_ret
      exact ⟨rfl, (by repeat (first | with_reducible exact Kept.refl _ | with_reducible assumption | with_reducible refine Kept.drew ?_ | with_reducible refine Kept.drewN ?_ _ | with_reducible refine Kept.alloc ?_ _ | (with_reducible refine Kept.setCell ?_ (by first | exact Nat.le_refl _ | omega | (simp; done) | (simp; omega)) _) | (with_reducible refine Kept.trans ?_ (by with_reducible assumption))))⟩
  · by_cases ho : OkD 2 y m d
    · obtain ⟨e1, e2, e3, o1, o2, n1, n2, a1, a2, b1, b2, f1, f2, f3⟩ := letter_facts 2 y m d (.inr rfl) ho
      have KN := Lib.hid (fun w => refToDay_all 2 y m d w)
      rw [e1, e2] at KN
      have KA := Lib.hid (fun w hT => Letters_all 2 y w hT)
      rw [e3] at KA
      have KD := Lib.hid (fun w => refOfYear_all 2 y m d w)
      rw [e2] at KD
      have KL := Lib.hid (fun w => refLeap_any 2 y w (by have := ho.1; omega) (by have := ho.2.1; omega))
      have KO := Lib.hid (fun w => rWOf_any (num 2 y m d) w (by omega) (by omega))
      have r0 : 0 ≤ num 2 y m d % 7 := by omega
      clear e1 e2 e3 ho
      by_cases hm : m ≤ 2
      · have ff := f1 hm
        by_cases hz : num 2 y m d % 7 = 0
        · have hq : (oyN 2 y m d % 7 == ltA 2 y % 7) = true := by have := ff.1 hz; simpa using this
          rw [hz] at KO
          clear hz f1 f2 f3 ff
          go_enter Tryd.func8, Tryd.ntmps8
          go_wp2_with fail
          (go_at_call 22; refine (Gold_awake _ (KT.out _ (by repeat (first | with_reducible exact Kept.refl _ | with_reducible assumption | with_reducible refine Kept.drew ?_ | with_reducible refine Kept.drewN ?_ _ | with_reducible refine Kept.alloc ?_ _ | (with_reducible refine Kept.setCell ?_ (by first | exact Nat.le_refl _ | omega | (simp; done) | (simp; omega)) _) | (with_reducible refine Kept.trans ?_ (by with_reducible assumption)))))).mono ?_; rintro e w1 ⟨rfl, hk1⟩)
          have hB1_1 := hk1
          obtain ⟨hc1_1, hf1_1⟩ := kept_cells hB1_1
          have hz1_0_1 : w.heap.size < w1.heap.size := by have := hB1_1.size; simp at this; omega
          go_wp2_with fail
          (go_at_call 26; refine (KN.out _).mono ?_; rintro e w2 ⟨rfl, hk2⟩)
          have hB1_2 := Kept.trans hB1_1 hk2
          obtain ⟨hc1_2, hf1_2⟩ := kept_cells hB1_2
          have hz1_0_2 : w.heap.size < w2.heap.size := by have := hB1_2.size; simp at this; omega
          go_wp2_with fail
          (go_at_call 27; refine (KA.out _ (KT.out _ (by repeat (first | with_reducible exact Kept.refl _ | with_reducible assumption | with_reducible refine Kept.drew ?_ | with_reducible refine Kept.drewN ?_ _ | with_reducible refine Kept.alloc ?_ _ | (with_reducible refine Kept.setCell ?_ (by first | exact Nat.le_refl _ | omega | (simp; done) | (simp; omega)) _) | (with_reducible refine Kept.trans ?_ (by with_reducible assumption)))))).mono ?_; rintro e w3 ⟨rfl, hk3⟩)
          have hB1_3 := Kept.trans hB1_2 hk3
          obtain ⟨hc1_3, hf1_3⟩ := kept_cells hB1_3
          have hz1_0_3 : w.heap.size < w3.heap.size := by have := hB1_3.size; simp at this; omega
          go_wp2_with fail
          (go_at_call 28; refine (KD.out _).mono ?_; rintro e w4 ⟨rfl, hk4⟩)
          have hB1_4 := Kept.trans hB1_3 hk4
          obtain ⟨hc1_4, hf1_4⟩ := kept_cells hB1_4
          have hz1_0_4 : w.heap.size < w4.heap.size := by have := hB1_4.size; simp at this; omega
          go_wp2_with fail
          (go_at_call 29; refine (KO.out _).mono ?_; rintro e w1 ⟨rfl, rfl⟩)
          go_wp2
          go_ret
          exact ⟨by first | rfl | (simp; done) | (simp; omega), (by repeat (first | with_reducible exact Kept.refl _ | with_reducible assumption | with_reducible refine Kept.drew ?_ | with_reducible refine Kept.drewN ?_ _ | with_reducible refine Kept.alloc ?_ _ | (with_reducible refine Kept.setCell ?_ (by first | exact Nat.le_refl _ | omega | (simp; done) | (simp; omega)) _) | (with_reducible refine Kept.trans ?_ (by with_reducible assumption))))⟩
        · have hq : (oyN 2 y m d % 7 == ltA 2 y % 7) = false := by have := fun g => hz (ff.2 g); simpa using this
          have hr : 1 ≤ num 2 y m d % 7 := by omega
          clear hz f1 f2 f3 ff
          go_enter Tryd.func8, Tryd.ntmps8
          go_wp2_with fail
          (go_at_call 22; refine (Gold_awake _ (KT.out _ (by repeat (first | with_reducible exact Kept.refl _ | with_reducible assumption | with_reducible refine Kept.drew ?_ | with_reducible refine Kept.drewN ?_ _ | with_reducible refine Kept.alloc ?_ _ | (with_reducible refine Kept.setCell ?_ (by first | exact Nat.le_refl _ | omega | (simp; done) | (simp; omega)) _) | (with_reducible refine Kept.trans ?_ (by with_reducible assumption)))))).mono ?_; rintro e w1 ⟨rfl, hk1⟩)
          have hB1_1 := hk1
          obtain ⟨hc1_1, hf1_1⟩ := kept_cells hB1_1
          have hz1_0_1 : w.heap.size < w1.heap.size := by have := hB1_1.size; simp at this; omega
          go_wp2_with fail
          (go_at_call 26; refine (KN.out _).mono ?_; rintro e w2 ⟨rfl, hk2⟩)
          have hB1_2 := Kept.trans hB1_1 hk2
          obtain ⟨hc1_2, hf1_2⟩ := kept_cells hB1_2
          have hz1_0_2 : w.heap.size < w2.heap.size := by have := hB1_2.size; simp at this; omega
          go_wp2_with fail
          (go_at_call 27; refine (KA.out _ (KT.out _ (by repeat (first | with_reducible exact Kept.refl _ | with_reducible assumption | with_reducible refine Kept.drew ?_ | with_reducible refine Kept.drewN ?_ _ | with_reducible refine Kept.alloc ?_ _ | (with_reducible refine Kept.setCell ?_ (by first | exact Nat.le_refl _ | omega | (simp; done) | (simp; omega)) _) | (with_reducible refine Kept.trans ?_ (by with_reducible assumption)))))).mono ?_; rintro e w3 ⟨rfl, hk3⟩)
          have hB1_3 := Kept.trans hB1_2 hk3
          obtain ⟨hc1_3, hf1_3⟩ := kept_cells hB1_3
          have hz1_0_3 : w.heap.size < w3.heap.size := by have := hB1_3.size; simp at this; omega
          go_wp2_with fail
          (go_at_call 28; refine (KD.out _).mono ?_; rintro e w4 ⟨rfl, hk4⟩)
          have hB1_4 := Kept.trans hB1_3 hk4
          obtain ⟨hc1_4, hf1_4⟩ := kept_cells hB1_4
          have hz1_0_4 : w.heap.size < w4.heap.size := by have := hB1_4.size; simp at this; omega
          go_wp2_with fail
          (go_at_call 29; refine (KO.out _).mono ?_; rintro e w1 ⟨rfl, rfl⟩)
          go_wp2
          go_ret
          exact ⟨by first | rfl | (simp; done) | (simp; omega), (by repeat (first | with_reducible exact Kept.refl _ | with_reducible assumption | with_reducible refine Kept.drew ?_ | with_reducible refine Kept.drewN ?_ _ | with_reducible refine Kept.alloc ?_ _ | (with_reducible refine Kept.setCell ?_ (by first | exact Nat.le_refl _ | omega | (simp; done) | (simp; omega)) _) | (with_reducible refine Kept.trans ?_ (by with_reducible assumption))))⟩
      · have hm2 : 2 < m := by omega
        clear hm
        cases hl : lp 2 y
        · have ff := f3 hl
          rw [hl] at KL
          by_cases hz : num 2 y m d % 7 = 0
          · have hq : (oyN 2 y m d % 7 == ltB 2 y % 7) = true := by have := ff.1 hz; simpa using this
            rw [hz] at KO
            clear hz f1 f2 f3 ff hl
            go_enter Tryd.func8, Tryd.ntmps8
            go_wp2_with fail
            (go_at_call 22; refine (Gold_awake _ (KT.out _ (by repeat (first | with_reducible exact Kept.refl _ | with_reducible assumption | with_reducible refine Kept.drew ?_ | with_reducible refine Kept.drewN ?_ _ | with_reducible refine Kept.alloc ?_ _ | (with_reducible refine Kept.setCell ?_ (by first | exact Nat.le_refl _ | omega | (simp; done) | (simp; omega)) _) | (with_reducible refine Kept.trans ?_ (by with_reducible assumption)))))).mono ?_; rintro e w1 ⟨rfl, hk1⟩)
            have hB1_1 := hk1
            obtain ⟨hc1_1, hf1_1⟩ := kept_cells hB1_1
            have hz1_0_1 : w.heap.size < w1.heap.size := by have := hB1_1.size; simp at this; omega
            go_wp2_with fail
            (go_at_call 26; refine (KN.out _).mono ?_; rintro e w2 ⟨rfl, hk2⟩)
            have hB1_2 := Kept.trans hB1_1 hk2
            obtain ⟨hc1_2, hf1_2⟩ := kept_cells hB1_2
            have hz1_0_2 : w.heap.size < w2.heap.size := by have := hB1_2.size; simp at this; omega
            go_wp2_with fail
            (go_at_call 27; refine (KA.out _ (KT.out _ (by repeat (first | with_reducible exact Kept.refl _ | with_reducible assumption | with_reducible refine Kept.drew ?_ | with_reducible refine Kept.drewN ?_ _ | with_reducible refine Kept.alloc ?_ _ | (with_reducible refine Kept.setCell ?_ (by first | exact Nat.le_refl _ | omega | (simp; done) | (simp; omega)) _) | (with_reducible refine Kept.trans ?_ (by with_reducible assumption)))))).mono ?_; rintro e w3 ⟨rfl, hk3⟩)
            have hB1_3 := Kept.trans hB1_2 hk3
            obtain ⟨hc1_3, hf1_3⟩ := kept_cells hB1_3
            have hz1_0_3 : w.heap.size < w3.heap.size := by have := hB1_3.size; simp at this; omega
            go_wp2_with fail
            (go_at_call 28; refine (KD.out _).mono ?_; rintro e w4 ⟨rfl, hk4⟩)
            have hB1_4 := Kept.trans hB1_3 hk4
            obtain ⟨hc1_4, hf1_4⟩ := kept_cells hB1_4
            have hz1_0_4 : w.heap.size < w4.heap.size := by have := hB1_4.size; simp at this; omega
            go_wp2_with fail
            (go_at_call 21; refine (KL.out _).mono ?_; rintro e w1 ⟨rfl, rfl⟩)
            go_wp2_with fail
            (go_at_call 29; refine (KO.out _).mono ?_; rintro e w1 ⟨rfl, rfl⟩)
            go_wp2
            go_ret
            exact ⟨by first | rfl | (simp; done) | (simp; omega), (by repeat (first | with_reducible exact Kept.refl _ | with_reducible assumption | with_reducible refine Kept.drew ?_ | with_reducible refine Kept.drewN ?_ _ | with_reducible refine Kept.alloc ?_ _ | (with_reducible refine Kept.setCell ?_ (by first | exact Nat.le_refl _ | omega | (simp; done) | (simp; omega)) _) | (with_reducible refine Kept.trans ?_ (by with_reducible assumption))))⟩
          · have hq : (oyN 2 y m d % 7 == ltB 2 y % 7) = false := by have := fun g => hz (ff.2 g); simpa using this
            have hr : 1 ≤ num 2 y m d % 7 := by omega
            clear hz f1 f2 f3 ff hl
            go_enter Tryd.func8, Tryd.ntmps8
            go_wp2_with fail
            (go_at_call 22; refine (Gold_awake _ (KT.out _ (by repeat (first | with_reducible exact Kept.refl _ | with_reducible assumption | with_reducible refine Kept.drew ?_ | with_reducible refine Kept.drewN ?_ _ | with_reducible refine Kept.alloc ?_ _ | (with_reducible refine Kept.setCell ?_ (by first | exact Nat.le_refl _ | omega | (simp; done) | (simp; omega)) _) | (with_reducible refine Kept.trans ?_ (by with_reducible assumption)))))).mono ?_; rintro e w1 ⟨rfl, hk1⟩)
            have hB1_1 := hk1
            obtain ⟨hc1_1, hf1_1⟩ := kept_cells hB1_1
            have hz1_0_1 : w.heap.size < w1.heap.size := by have := hB1_1.size; simp at this; omega
            go_wp2_with fail
            (go_at_call 26; refine (KN.out _).mono ?_; rintro e w2 ⟨rfl, hk2⟩)
            have hB1_2 := Kept.trans hB1_1 hk2
            obtain ⟨hc1_2, hf1_2⟩ := kept_cells hB1_2
            have hz1_0_2 : w.heap.size < w2.heap.size := by have := hB1_2.size; simp at this; omega
            go_wp2_with fail
            (go_at_call 27; refine (KA.out _ (KT.out _ (by repeat (first | with_reducible exact Kept.refl _ | with_reducible assumption | with_reducible refine Kept.drew ?_ | with_reducible refine Kept.drewN ?_ _ | with_reducible refine Kept.alloc ?_ _ | (with_reducible refine Kept.setCell ?_ (by first | exact Nat.le_refl _ | omega | (simp; done) | (simp; omega)) _) | (with_reducible refine Kept.trans ?_ (by with_reducible assumption)))))).mono ?_; rintro e w3 ⟨rfl, hk3⟩)
            have hB1_3 := Kept.trans hB1_2 hk3
            obtain ⟨hc1_3, hf1_3⟩ := kept_cells hB1_3
            have hz1_0_3 : w.heap.size < w3.heap.size := by have := hB1_3.size; simp at this; omega
            go_wp2_with fail
            (go_at_call 28; refine (KD.out _).mono ?_; rintro e w4 ⟨rfl, hk4⟩)
            have hB1_4 := Kept.trans hB1_3 hk4
            obtain ⟨hc1_4, hf1_4⟩ := kept_cells hB1_4
            have hz1_0_4 : w.heap.size < w4.heap.size := by have := hB1_4.size; simp at this; omega
            go_wp2_with fail
            (go_at_call 21; refine (KL.out _).mono ?_; rintro e w1 ⟨rfl, rfl⟩)
            go_wp2_with fail
            (go_at_call 29; refine (KO.out _).mono ?_; rintro e w1 ⟨rfl, rfl⟩)
            go_wp2
            go_ret
            exact ⟨by first | rfl | (simp; done) | (simp; omega), (by repeat (first | with_reducible exact Kept.refl _ | with_reducible assumption | with_reducible refine Kept.drew ?_ | with_reducible refine Kept.drewN ?_ _ | with_reducible refine Kept.alloc ?_ _ | (with_reducible refine Kept.setCell ?_ (by first | exact Nat.le_refl _ | omega | (simp; done) | (simp; omega)) _) | (with_reducible refine Kept.trans ?_ (by with_reducible assumption))))⟩
        · have ff := f2 hm2 hl
          rw [hl] at KL
          by_cases hz : num 2 y m d % 7 = 0
          · have hq : ((oyN 2 y m d - 1) % 7 == ltB 2 y % 7) = true := by have := ff.1 hz; simpa using this
            rw [hz] at KO
            clear hz f1 f2 f3 ff hl
            go_enter Tryd.func8, Tryd.ntmps8
            go_wp2_with fail
            (go_at_call 22; refine (Gold_awake _ (KT.out _ (by repeat (first | with_reducible exact Kept.refl _ | with_reducible assumption | with_reducible refine Kept.drew ?_ | with_reducible refine Kept.drewN ?_ _ | with_reducible refine Kept.alloc ?_ _ | (with_reducible refine Kept.setCell ?_ (by first | exact Nat.le_refl _ | omega | (simp; done) | (simp; omega)) _) | (with_reducible refine Kept.trans ?_ (by with_reducible assumption)))))).mono ?_; rintro e w1 ⟨rfl, hk1⟩)
            have hB1_1 := hk1
            obtain ⟨hc1_1, hf1_1⟩ := kept_cells hB1_1
            have hz1_0_1 : w.heap.size < w1.heap.size := by have := hB1_1.size; simp at this; omega
            go_wp2_with fail
            (go_at_call 26; refine (KN.out _).mono ?_; rintro e w2 ⟨rfl, hk2⟩)
            have hB1_2 := Kept.trans hB1_1 hk2
            obtain ⟨hc1_2, hf1_2⟩ := kept_cells hB1_2
            have hz1_0_2 : w.heap.size < w2.heap.size := by have := hB1_2.size; simp at this; omega
            go_wp2_with fail
            (go_at_call 27; refine (KA.out _ (KT.out _ (by repeat (first | with_reducible exact Kept.refl _ | with_reducible assumption | with_reducible refine Kept.drew ?_ | with_reducible refine Kept.drewN ?_ _ | with_reducible refine Kept.alloc ?_ _ | (with_reducible refine Kept.setCell ?_ (by first | exact Nat.le_refl _ | omega | (simp; done) | (simp; omega)) _) | (with_reducible refine Kept.trans ?_ (by with_reducible assumption)))))).mono ?_; rintro e w3 ⟨rfl, hk3⟩)
            have hB1_3 := Kept.trans hB1_2 hk3
            obtain ⟨hc1_3, hf1_3⟩ := kept_cells hB1_3
            have hz1_0_3 : w.heap.size < w3.heap.size := by have := hB1_3.size; simp at this; omega
            go_wp2_with fail
            (go_at_call 28; refine (KD.out _).mono ?_; rintro e w4 ⟨rfl, hk4⟩)
            have hB1_4 := Kept.trans hB1_3 hk4
            obtain ⟨hc1_4, hf1_4⟩ := kept_cells hB1_4
            have hz1_0_4 : w.heap.size < w4.heap.size := by have := hB1_4.size; simp at this; omega
            go_wp2_with fail
            (go_at_call 21; refine (KL.out _).mono ?_; rintro e w1 ⟨rfl, rfl⟩)
            go_wp2_with fail
            (go_at_call 29; refine (KO.out _).mono ?_; rintro e w1 ⟨rfl, rfl⟩)
            go_wp2
            go_ret
            exact ⟨by first | rfl | (simp; done) | (simp; omega), (by repeat (first | with_reducible exact Kept.refl _ | with_reducible assumption | with_reducible refine Kept.drew ?_ | with_reducible refine Kept.drewN ?_ _ | with_reducible refine Kept.alloc ?_ _ | (with_reducible refine Kept.setCell ?_ (by first | exact Nat.le_refl _ | omega | (simp; done) | (simp; omega)) _) | (with_reducible refine Kept.trans ?_ (by with_reducible assumption))))⟩
          · have hq : ((oyN 2 y m d - 1) % 7 == ltB 2 y % 7) = false := by have := fun g => hz (ff.2 g); simpa using this
            have hr : 1 ≤ num 2 y m d % 7 := by omega
            clear hz f1 f2 f3 ff hl
            go_enter Tryd.func8, Tryd.ntmps8
            go_wp2_with fail
            (go_at_call 22; refine (Gold_awake _ (KT.out _ (by repeat (first | with_reducible exact Kept.refl _ | with_reducible assumption | with_reducible refine Kept.drew ?_ | with_reducible refine Kept.drewN ?_ _ | with_reducible refine Kept.alloc ?_ _ | (with_reducible refine Kept.setCell ?_ (by first | exact Nat.le_refl _ | omega | (simp; done) | (simp; omega)) _) | (with_reducible refine Kept.trans ?_ (by with_reducible assumption)))))).mono ?_; rintro e w1 ⟨rfl, hk1⟩)
            have hB1_1 := hk1
            obtain ⟨hc1_1, hf1_1⟩ := kept_cells hB1_1
            have hz1_0_1 : w.heap.size < w1.heap.size := by have := hB1_1.size; simp at this; omega
            go_wp2_with fail
            (go_at_call 26; refine (KN.out _).mono ?_; rintro e w2 ⟨rfl, hk2⟩)
            have hB1_2 := Kept.trans hB1_1 hk2
            obtain ⟨hc1_2, hf1_2⟩ := kept_cells hB1_2
            have hz1_0_2 : w.heap.size < w2.heap.size := by have := hB1_2.size; simp at this; omega
            go_wp2_with fail
            (go_at_call 27; refine (KA.out _ (KT.out _ (by repeat (first | with_reducible exact Kept.refl _ | with_reducible assumption | with_reducible refine Kept.drew ?_ | with_reducible refine Kept.drewN ?_ _ | with_reducible refine Kept.alloc ?_ _ | (with_reducible refine Kept.setCell ?_ (by first | exact Nat.le_refl _ | omega | (simp; done) | (simp; omega)) _) | (with_reducible refine Kept.trans ?_ (by with_reducible assumption)))))).mono ?_; rintro e w3 ⟨rfl, hk3⟩)
            have hB1_3 := Kept.trans hB1_2 hk3
            obtain ⟨hc1_3, hf1_3⟩ := kept_cells hB1_3
            have hz1_0_3 : w.heap.size < w3.heap.size := by have := hB1_3.size; simp at this; omega
            go_wp2_with fail
            (go_at_call 28; refine (KD.out _).mono ?_; rintro e w4 ⟨rfl, hk4⟩)
            have hB1_4 := Kept.trans hB1_3 hk4
            obtain ⟨hc1_4, hf1_4⟩ := kept_cells hB1_4
            have hz1_0_4 : w.heap.size < w4.heap.size := by have := hB1_4.size; simp at this; omega
            go_wp2_with fail
            (go_at_call 21; refine (KL.out _).mono ?_; rintro e w1 ⟨rfl, rfl⟩)
            go_wp2_with fail
            (go_at_call 29; refine (KO.out _).mono ?_; rintro e w1 ⟨rfl, rfl⟩)
            go_wp2
            go_ret
            exact ⟨by first | rfl | (simp; done) | (simp; omega), (by repeat (first | with_reducible exact Kept.refl _ | with_reducible assumption | with_reducible refine Kept.drew ?_ | with_reducible refine Kept.drewN ?_ _ | with_reducible refine Kept.alloc ?_ _ | (with_reducible refine Kept.setCell ?_ (by first | exact Nat.le_refl _ | omega | (simp; done) | (simp; omega)) _) | (with_reducible refine Kept.trans ?_ (by with_reducible assumption))))⟩
    · have hp : 1 ≤ cE 2 y m d := by
        rcases c_cases 2 y m d with ⟨_, p, _⟩ | ⟨_, p, _⟩
        · exact absurd p ho
        · exact p
      clear ho
      go_enter Tryd.func8, Tryd.ntmps8
      go_wp2_with fail
      (go_at_call 22; refine (Gold_awake _ (KT.out _ (by repeat (first | with_reducible exact Kept.refl _ | with_reducible assumption | with_reducible refine Kept.drew ?_ | with_reducible refine Kept.drewN ?_ _ | with_reducible refine Kept.alloc ?_ _ | (with_reducible refine Kept.setCell ?_ (by first | exact Nat.le_refl _ | omega | (simp; done) | (simp; omega)) _) | (with_reducible refine Kept.trans ?_ (by with_reducible assumption)))))).mono ?_; rintro e w1 ⟨rfl, hk1⟩)
      have hB1_1 := hk1
      obtain ⟨hc1_1, hf1_1⟩ := kept_cells hB1_1
      have hz1_0_1 : w.heap.size < w1.heap.size := by have := hB1_1.size; simp at this; omega
      go_wp2_with fail
      (go_at_call 26; refine (refToDay_all _ _ _ _ _).mono ?_; rintro e w2 ⟨rfl, hk2⟩)
      have hB1_2 := Kept.trans hB1_1 hk2
      obtain ⟨hc1_2, hf1_2⟩ := kept_cells hB1_2
      have hz1_0_2 : w.heap.size < w2.heap.size := by have := hB1_2.size; simp at this; omega
      go_wp2
      go_ret
      exact ⟨rfl, (by repeat (first | with_reducible exact Kept.refl _ | with_reducible assumption | with_reducible refine Kept.drew ?_ | with_reducible refine Kept.drewN ?_ _ | with_reducible refine Kept.alloc ?_ _ | (with_reducible refine Kept.setCell ?_ (by first | exact Nat.le_refl _ | omega | (simp; done) | (simp; omega)) _) | (with_reducible refine Kept.trans ?_ (by with_reducible assumption))))⟩

set_option maxRecDepth 100000 in
theorem GoldenLetters_contract (H : Type) (enc : TypeId × Value → H) (W : World) (base : Nat) (args : Array Value) (ds gs : List (DataW H)) (before : List MemPlace)
    (hval : ∀ (j : Nat) t v, Tryd.f8.params[j]? = some t → args[j]? = some v → Value.okWide Tryd.prog W .any base t v)
    (hW : DataW.Whole enc Tryd.prog Tryd.f8.params.toList Rows.goldenLettersSpec.vars false W args.toList ds gs before) (hL : laidMetH Tryd.prog Rows.goldenLettersRow.laid W) :
    Calls Tryd.prog 8 args W fun e W' => ∃ v, e = .returned v ∧ Rows.goldenLettersSpec.post enc Tryd.prog Tryd.f8 false true false false W args v W' := by
  have hW' := hW
  obtain ⟨p, q, hA0, hV, rfl, hfz, hnd⟩ := hW
  have hA : DataW.TrodAll enc Tryd.prog W 0 (fun _ => true) true Tryd.f8.params.toList args.toList ds p := hA0
  rw [Tryd.params8] at hA hval
  obtain ⟨v0, vs0, d0, ds0, p0, q0, hargs, rfl, rfl, h0, r0⟩ := trodAll_cons hA
  obtain ⟨v1, vs1, d1, ds1, p1, q1, rfl, rfl, rfl, h1, r1⟩ := trodAll_cons r0
  obtain ⟨rfl, rfl, rfl⟩ := trodAll_nil r1
  obtain rfl : args = #[v0, v1] := by cases args; simp_all
  obtain ⟨rfl, rfl⟩ := trodVars_none hV
  obtain ⟨a0, rfl, rfl, rfl, w0⟩ := open_int Tryd.underlying5 (hval 0 5 v0 rfl rfl) h0
  obtain ⟨c10, c11, c12, y10, y11, y12, m1, rfl, rfl, rfl, hy10, hy11, hy12⟩ := open_agg3 Tryd.underlying23 (by kernel_rfl) cells_Date (hval 1 23 v1 rfl rfl) h1
  obtain ⟨a10, e10, rfl, w10⟩ := DataW.trod_int Tryd.underlying3 hy10
  obtain ⟨a11, e11, rfl, w11⟩ := DataW.trod_int Tryd.underlying3 hy11
  obtain ⟨a12, e12, rfl, w12⟩ := DataW.trod_int Tryd.underlying3 hy12
  simp at e10 e11 e12
  subst e10 e11 e12
  clear hA0
  simp only [List.append_nil] at hW'
  refine (GoldenLetters_walk a0 a10 a11 a12 (wf_bounds8 w0) (wf_bounds w10) (wf_bounds w11) (wf_bounds w12) W (tab_of hL)).mono fun e W' ⟨he, hg⟩ => ?_
  subst he
  exact ⟨_, rfl, post_of_kept (pa := []) (pv := []) hW' (fun _ _ _ => (trodAll_cons_mk (shut_bool Tryd.underlying4 _) trodAll_mk0)) (fun sp _ => (trodAll_cons_mk (shut_int Tryd.underlying5 w0) (trodAll_cons_mk (shut_agg3 (y0 := (.lit (.int .i64 a10), [])) (y1 := (.lit (.int .i64 a11), [])) (y2 := (.lit (.int .i64 a12), [])) Tryd.underlying23 (by kernel_rfl) cells_Date ⟨1, by simp [DataW.trod, Tryd.underlying3, w10]⟩ ⟨1, by simp [DataW.trod, Tryd.underlying3, w11]⟩ ⟨1, by simp [DataW.trod, Tryd.underlying3, w12]⟩) trodAll_mk0))) (fun _ _ => rfl) rfl
    hg (ok_one (by kernel_rfl) rfl (okWide_bool_mk Tryd.underlying4 _))⟩
theorem GoldenLetters_laid (os : Os) : laidMet Tryd.prog Rows.goldenLettersRow.laid ((laidWorld os).forCall (fun _ _ => 0) ⟨#[], #[.int .u8 0, .agg #[.int .i64 0, .int .i64 0, .int .i64 0]], []⟩).memory :=
  laidMet_of_run' 8 (by kernel_rfl) (by kernel_rfl)
theorem GoldenLetters_reads (os : Os) {H : Type} (enc : TypeId × Value → H) : ∃ places, DataW.whole enc Tryd.prog ((laidWorld os).forCall (fun _ _ => 0) ⟨#[], #[.int .u8 0, .agg #[.int .i64 0, .int .i64 0, .int .i64 0]], []⟩).memory Tryd.f8.params.toList Rows.goldenLettersSpec.vars false (#[.int .u8 0, .agg #[.int .i64 0, .int .i64 0, .int .i64 0]] : Array Value).toList 8 = some ([.lit (.int .u8 0), .agg [.lit (.int .i64 0), .lit (.int .i64 0), .lit (.int .i64 0)]], [], places) :=
  ⟨[], by kernel_rfl⟩
set_option maxRecDepth 100000 in
theorem GoldenLetters_lifted (os : Os) (started : os.Started) (H : Type) (enc : TypeId × Value → H) (F : Stop.Interp) :
    ReturnsInHanded {} Tryd.checked os 8 .any ((OpenSpec.ofChange Rows.goldenLettersSpec).preRow enc Tryd.prog Tryd.f8 Rows.goldenLettersRow.domain false Rows.goldenLettersRow.laid) (((OpenSpec.ofChange Rows.goldenLettersSpec).at F).post enc Tryd.prog Tryd.f8 false true false false) := by
  obtain ⟨places, hx⟩ := GoldenLetters_reads os enc
  refine returnsInHanded_of_row (C := Tryd.checked) (s := OpenSpec.ofChange Rows.goldenLettersSpec) own_knob started (by kernel_rfl) Tryd.func8
    (witness_row_at (enc := enc) (C := Tryd.checked) false (laidWorld os) #[.int .u8 0, .agg #[.int .i64 0, .int .i64 0, .int .i64 0]] rfl (by kernel_rfl) (by kernel_rfl) (by kernel_rfl)
      (OpenSpec.preRow_of_cond 8 hx (by kernel_rfl) (fun k hk => by cases hk) (by kernel_rfl) (GoldenLetters_laid os))) ?_
  intro W base args ds gs before hval hW _ _ _ hL _ _
  exact GoldenLetters_contract H enc W base args ds gs before hval hW hL
theorem GoldenLetters_said : Rows.GoldenLettersSaid :=
  OpenClaim.holds_of_cond 8 Tryd.f8 rfl rfl rfl rfl rfl rfl rfl ⟨rfl, rfl, rfl, rfl, rfl⟩ rfl rfl rfl rfl rfl (by kernel_rfl) Tryd.func8 (by kernel_rfl)
    (of_decide_eq_true (by kernel_rfl)) (by unfold Func.isWrapper; first | (rw [if_pos (by decide +kernel)]; kernel_rfl) | (rw [if_neg (by decide +kernel)]; exact ⟨rfl, rfl⟩))
    (fun os started H enc _ F => by rw [OpenClaim.pre_eq_preRow]; exact GoldenLetters_lifted os started H enc F)
theorem GoldenLetters_plain (f : FuncId) (fn : Func) (hf : Tryd.pinned.checked.prog.funcNamed "computus/computuslaw06.GoldenLetters" = some f) (hfn : Tryd.pinned.checked.prog.funcs[f]? = some fn) :
    false = Tryd.pinned.checked.prog.looks [] ∧ ∀ (j : Nat) t, fn.params[j]? = some t → Tryd.pinned.checked.prog.wantsStandIn t = false := by
  obtain rfl : f = 8 := Option.some.inj ((show Tryd.prog.funcNamed "computus/computuslaw06.GoldenLetters" = some 8 by kernel_rfl).symm.trans hf) |>.symm
  obtain rfl : fn = Tryd.f8 := (Option.some.inj (Tryd.func8.symm.trans hfn)).symm
  refine ⟨by kernel_rfl, fun j t ht => ?_⟩
  rw [Tryd.params8] at ht
  have hm : t ∈ [5, 23] := by simpa using Array.mem_of_getElem? ht
  have hall : ([5, 23].all fun u => !Tryd.prog.wantsStandIn u) = true := by kernel_rfl
  exact (show Tryd.prog.wantsStandIn t = false by simpa using List.all_eq_true.1 hall t hm)
theorem GoldenLetters_proved : Rows.GoldenLettersCardSaid :=
  Claim7.holds_tied_plain_at .later [] _ _ _ _ GoldenLetters_said (fun _ h => by cases h) (by kernel_rfl) (fun _ h => by cases h) goldenLetters_row_tie rfl ⟨rfl, rfl⟩ (by kernel_rfl) rfl GoldenLetters_plain (by kernel_rfl)
#print axioms GoldenLetters_proved
end Go.Proofs.YtcfgiboknkkheaaDoor

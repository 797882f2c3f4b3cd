/- Contracts: package civil and its reference: OfYear, Shift, Weekday; days of the week. -/
import Derived.Test.YtcfgiboknkkheaaDoorCiv2
set_option linter.unusedSimpArgs false
set_option linter.unusedVariables false
set_option linter.unusedSectionVars false
namespace Go.Proofs.YtcfgiboknkkheaaDoor
open Go.ChangeShapes Go.WideShapes Go.ChangeAt Go.RowKit
set_option maxHeartbeats 800000

theorem WOf_any (n : Int) (w : World) (h : -4611686018427387904 ≤ n) (h' : n ≤ 4611686018427387904) :
    Calls Tryd.prog 60 #[.int .i64 n] w fun e w' => e = .returned (.int .i64 (n % 7)) ∧ w.drew = w' := by
  go_enter Tryd.func60, Tryd.ntmps60
  go_wp2_with (go_at_call 77; refine (IMod_any _ _ _ h h' (by omega) (by omega)).mono ?_; rintro e w1 ⟨rfl, rfl⟩)
  go_ret
  exact ⟨rfl, rfl⟩
theorem rWOf_any (n : Int) (w : World) (h : -9223372036854775808 ≤ n) (h' : n ≤ 9223372036854775807) :
    Calls Tryd.prog 29 #[.int .i64 n] w fun e w' => e = .returned (.int .i64 (n % 7)) ∧ w = w' := by
  go_enter Tryd.func29, Tryd.ntmps29
  go_wp2_with (go_at_call 59; refine (Mod_any _ _ _ h h' (by omega) (by omega)).mono ?_; rintro e w1 ⟨rfl, rfl⟩)
  go_ret
  exact ⟨rfl, rfl⟩
theorem Weekday_all (c y m d : Int) (w : World) (hT : Tab w) :
    Calls Tryd.prog 32 #[.int .i64 c, .agg #[.int .i64 y, .int .i64 m, .int .i64 d]] w fun e' w' => e' = .returned (.tuple #[.int .i64 (wdN c y m d), .int .i64 (cE c y m d)]) ∧ Kept w w' := by
  have KT := Lib.hid (fun w' (k : Kept w w') => hT.kept k)
  clear hT
  obtain ⟨n1, n2⟩ := cN_bounds c y m d
  by_cases hz : cE c y m d = 0
  · have e1 : wdN c y m d = cN c y m d % 7 := if_pos hz
    rw [e1, hz]
    have HZ := Lib.hid hz
    clear hz e1
    go_enter Tryd.func32, Tryd.ntmps32
    go_wp2_with fail
    (go_at_call 31; refine (CToDay_ok _ _ _ _ _ (KT.out _ (by repeat (first | with_reducible exact Kept.refl _ | with_reducible assumption | with_reducible refine Kept.drew ?_ | with_reducible refine Kept.drewN ?_ _ | with_reducible refine Kept.alloc ?_ _ | (with_reducible refine Kept.setCell ?_ (by first | exact Nat.le_refl _ | omega | (simp; done) | (simp; omega)) _) | (with_reducible refine Kept.trans ?_ (by with_reducible assumption))))) HZ.out).mono ?_; rintro e w1 ⟨rfl, hk1⟩)
    have hB1_1 := hk1
    obtain ⟨hc1_1, hf1_1⟩ := kept_cells hB1_1
    have hz1_0_1 : w.heap.size < w1.heap.size := by have := hB1_1.size; simp at this; omega
    go_wp2_with fail
    (go_at_call 60; refine (WOf_any _ _ (by omega) (by omega)).mono ?_; rintro e w1 ⟨rfl, rfl⟩)
    go_wp2
    go_ret2
    exact ⟨rfl, (by repeat (first | with_reducible exact Kept.refl _ | with_reducible assumption | with_reducible refine Kept.drew ?_ | with_reducible refine Kept.drewN ?_ _ | with_reducible refine Kept.alloc ?_ _ | (with_reducible refine Kept.setCell ?_ (by first | exact Nat.le_refl _ | omega | (simp; done) | (simp; omega)) _) | (with_reducible refine Kept.trans ?_ (by with_reducible assumption))))⟩
  · have hp := cE_pos c y m d hz
    rw [show wdN c y m d = 0 from if_neg hz]
    clear hz
    go_enter Tryd.func32, Tryd.ntmps32
    go_wp2_with fail
    (go_at_call 31; refine (CToDay_all _ _ _ _ _ (KT.out _ (by repeat (first | with_reducible exact Kept.refl _ | with_reducible assumption | with_reducible refine Kept.drew ?_ | with_reducible refine Kept.drewN ?_ _ | with_reducible refine Kept.alloc ?_ _ | (with_reducible refine Kept.setCell ?_ (by first | exact Nat.le_refl _ | omega | (simp; done) | (simp; omega)) _) | (with_reducible refine Kept.trans ?_ (by with_reducible assumption)))))).mono ?_; rintro e w1 ⟨rfl, hk1⟩)
    have hB1_1 := hk1
    obtain ⟨hc1_1, hf1_1⟩ := kept_cells hB1_1
    have hz1_0_1 : w.heap.size < w1.heap.size := by have := hB1_1.size; simp at this; omega
    go_wp2
    go_ret2
    exact ⟨rfl, (by repeat (first | with_reducible exact Kept.refl _ | with_reducible assumption | with_reducible refine Kept.drew ?_ | with_reducible refine Kept.drewN ?_ _ | with_reducible refine Kept.alloc ?_ _ | (with_reducible refine Kept.setCell ?_ (by first | exact Nat.le_refl _ | omega | (simp; done) | (simp; omega)) _) | (with_reducible refine Kept.trans ?_ (by with_reducible assumption))))⟩
theorem Shift_all (c y m d n x1 x2 x3 e : Int) (w : World) (hT : Tab w) (hs : ShRel c y m d n x1 x2 x3 e) (hn : -9223372036854775808 ≤ n ∧ n ≤ 9223372036854775807) :
    Calls Tryd.prog 19 #[.int .i64 c, .agg #[.int .i64 y, .int .i64 m, .int .i64 d], .int .i64 n] w fun e' w' => e' = .returned (.tuple #[.agg #[.int .i64 x1, .int .i64 x2, .int .i64 x3], .int .i64 e]) ∧ Kept w w' := by
  have KT := Lib.hid (fun w' (k : Kept w w') => hT.kept k)
  clear hT
  obtain ⟨n1, n2⟩ := cN_bounds c y m d
  obtain ⟨n3, n4⟩ := hn
  rcases hs with ⟨hz, rfl, rfl, rfl, rfl⟩ | ⟨hz, hf⟩
  · have hp := cE_pos c y m d hz
    clear hz
    go_enter Tryd.func19, Tryd.ntmps19
    go_wp2_with fail
    (go_at_call 31; refine (CToDay_all _ _ _ _ _ (KT.out _ (by repeat (first | with_reducible exact Kept.refl _ | with_reducible assumption | with_reducible refine Kept.drew ?_ | with_reducible refine Kept.drewN ?_ _ | with_reducible refine Kept.alloc ?_ _ | (with_reducible refine Kept.setCell ?_ (by first | exact Nat.le_refl _ | omega | (simp; done) | (simp; omega)) _) | (with_reducible refine Kept.trans ?_ (by with_reducible assumption)))))).mono ?_; rintro e w1 ⟨rfl, hk1⟩)
    have hB1_1 := hk1
    obtain ⟨hc1_1, hf1_1⟩ := kept_cells hB1_1
    have hz1_0_1 : w.heap.size < w1.heap.size := by have := hB1_1.size; simp at this; omega
    have hz1_1_1 : w.heap.size + 1 < w1.heap.size := by have := hB1_1.size; simp at this; omega
    go_wp2
    exact bodyPost_ret (v := .tuple #[.agg #[.int .i64 0, .int .i64 0, .int .i64 0], .int .i64 (cE c y m d)]) (by simp [results, Tryd.results19, go_sem, *]) rfl ⟨rfl, (by repeat (first | with_reducible exact Kept.refl _ | with_reducible assumption | with_reducible refine Kept.drew ?_ | with_reducible refine Kept.drewN ?_ _ | with_reducible refine Kept.alloc ?_ _ | (with_reducible refine Kept.setCell ?_ (by first | exact Nat.le_refl _ | omega | (simp; done) | (simp; omega)) _) | (with_reducible refine Kept.trans ?_ (by with_reducible assumption))))⟩
  · have HZ := Lib.hid hz
    by_cases hb : n < -1099511627776 ∨ 1099511627776 < n
    · have hc : IsCal c := by
        rcases c_cases c y m d with ⟨a, _⟩ | ⟨_, _, _, _⟩
        · exact a
        · omega
      have hx : x1 = 0 ∧ x2 = 0 ∧ x3 = 0 ∧ e = 1 := by
        rcases hf with hf | hf
        · exact fd_far c _ _ _ _ _ (by omega) hf.2
        · exact absurd hc hf.1
      obtain ⟨rfl, rfl, rfl, rfl⟩ := hx
      clear hf hz hc
      rcases hb with hb | hb
      all_goals
        go_enter Tryd.func19, Tryd.ntmps19
        go_wp2_with fail
        (go_at_call 31; refine (CToDay_ok _ _ _ _ _ (KT.out _ (by repeat (first | with_reducible exact Kept.refl _ | with_reducible assumption | with_reducible refine Kept.drew ?_ | with_reducible refine Kept.drewN ?_ _ | with_reducible refine Kept.alloc ?_ _ | (with_reducible refine Kept.setCell ?_ (by first | exact Nat.le_refl _ | omega | (simp; done) | (simp; omega)) _) | (with_reducible refine Kept.trans ?_ (by with_reducible assumption))))) HZ.out).mono ?_; rintro e w1 ⟨rfl, hk1⟩)
        have hB1_1 := hk1
        obtain ⟨hc1_1, hf1_1⟩ := kept_cells hB1_1
        have hz1_0_1 : w.heap.size < w1.heap.size := by have := hB1_1.size; simp at this; omega
        have hz1_1_1 : w.heap.size + 1 < w1.heap.size := by have := hB1_1.size; simp at this; omega
        go_wp2
        exact bodyPost_ret (v := .tuple #[.agg #[.int .i64 0, .int .i64 0, .int .i64 0], .int .i64 1]) (by simp [results, Tryd.results19, go_sem, *]) rfl ⟨rfl, (by repeat (first | with_reducible exact Kept.refl _ | with_reducible assumption | with_reducible refine Kept.drew ?_ | with_reducible refine Kept.drewN ?_ _ | with_reducible refine Kept.alloc ?_ _ | (with_reducible refine Kept.setCell ?_ (by first | exact Nat.le_refl _ | omega | (simp; done) | (simp; omega)) _) | (with_reducible refine Kept.trans ?_ (by with_reducible assumption))))⟩
    · have hb1 : -1099511627776 ≤ n := by omega
      have hb2 : n ≤ 1099511627776 := by omega
      have HF := Lib.hid hf
      clear hf hz hb
      go_enter Tryd.func19, Tryd.ntmps19
      go_wp2_with fail
      (go_at_call 31; refine (CToDay_ok _ _ _ _ _ (KT.out _ (by repeat (first | with_reducible exact Kept.refl _ | with_reducible assumption | with_reducible refine Kept.drew ?_ | with_reducible refine Kept.drewN ?_ _ | with_reducible refine Kept.alloc ?_ _ | (with_reducible refine Kept.setCell ?_ (by first | exact Nat.le_refl _ | omega | (simp; done) | (simp; omega)) _) | (with_reducible refine Kept.trans ?_ (by with_reducible assumption))))) HZ.out).mono ?_; rintro e w1 ⟨rfl, hk1⟩)
      have hB1_1 := hk1
      obtain ⟨hc1_1, hf1_1⟩ := kept_cells hB1_1
      have hz1_0_1 : w.heap.size < w1.heap.size := by have := hB1_1.size; simp at this; omega
      have hz1_1_1 : w.heap.size + 1 < w1.heap.size := by have := hB1_1.size; simp at this; omega
      go_wp2_with fail
      (go_at_call 41; refine (CFromDay_all _ _ _ _ _ _ _ (KT.out _ (by repeat (first | with_reducible exact Kept.refl _ | with_reducible assumption | with_reducible refine Kept.drew ?_ | with_reducible refine Kept.drewN ?_ _ | with_reducible refine Kept.alloc ?_ _ | (with_reducible refine Kept.setCell ?_ (by first | exact Nat.le_refl _ | omega | (simp; done) | (simp; omega)) _) | (with_reducible refine Kept.trans ?_ (by with_reducible assumption))))) HF.out).mono ?_; rintro e w2 ⟨rfl, hk2⟩)
      have hB1_2 := Kept.trans hB1_1 hk2
      obtain ⟨hc1_2, hf1_2⟩ := kept_cells hB1_2
      have hz1_0_2 : w.heap.size < w2.heap.size := by have := hB1_2.size; simp at this; omega
      have hz1_1_2 : w.heap.size + 1 < w2.heap.size := by have := hB1_2.size; simp at this; omega
      go_wp2
      exact bodyPost_ret (v := .tuple #[.agg #[.int .i64 x1, .int .i64 x2, .int .i64 x3], .int .i64 e]) (by simp [results, Tryd.results19, go_sem, *]) rfl ⟨rfl, (by repeat (first | with_reducible exact Kept.refl _ | with_reducible assumption | with_reducible refine Kept.drew ?_ | with_reducible refine Kept.drewN ?_ _ | with_reducible refine Kept.alloc ?_ _ | (with_reducible refine Kept.setCell ?_ (by first | exact Nat.le_refl _ | omega | (simp; done) | (simp; omega)) _) | (with_reducible refine Kept.trans ?_ (by with_reducible assumption))))⟩
theorem refShift_all (c y m d n x1 x2 x3 e : Int) (w : World) (hs : ShRel c y m d n x1 x2 x3 e) (hn : -9223372036854775808 ≤ n ∧ n ≤ 9223372036854775807) :
    Calls Tryd.prog 46 #[.int .i64 c, .agg #[.int .i64 y, .int .i64 m, .int .i64 d], .int .i64 n] w fun e' w' => e' = .returned (.tuple #[.agg #[.int .i64 x1, .int .i64 x2, .int .i64 x3], .int .i64 e]) ∧ Kept w w' := by
  obtain ⟨n1, n2⟩ := cN_bounds c y m d
  obtain ⟨n3, n4⟩ := hn
  rcases hs with ⟨hz, rfl, rfl, rfl, rfl⟩ | ⟨hz, hf⟩
  · have hp := cE_pos c y m d hz
    clear hz
    go_enter Tryd.func46, Tryd.ntmps46
    go_wp2_with fail
    (go_at_call 26; refine (refToDay_all _ _ _ _ _).mono ?_; rintro e w1 ⟨rfl, hk1⟩)
    have hB1_1 := hk1
    obtain ⟨hc1_1, hf1_1⟩ := kept_cells hB1_1
    have hz1_0_1 : w.heap.size < w1.heap.size := by have := hB1_1.size; simp at this; omega
    have hz1_1_1 : w.heap.size + 1 < w1.heap.size := by have := hB1_1.size; simp at this; omega
    go_wp2
    exact bodyPost_ret (v := .tuple #[.agg #[.int .i64 0, .int .i64 0, .int .i64 0], .int .i64 (cE c y m d)]) (by simp [results, Tryd.results46, go_sem, *]) rfl ⟨rfl, (by repeat (first | with_reducible exact Kept.refl _ | with_reducible assumption | with_reducible refine Kept.drew ?_ | with_reducible refine Kept.drewN ?_ _ | with_reducible refine Kept.alloc ?_ _ | (with_reducible refine Kept.setCell ?_ (by first | exact Nat.le_refl _ | omega | (simp; done) | (simp; omega)) _) | (with_reducible refine Kept.trans ?_ (by with_reducible assumption))))⟩
  · have HZ := Lib.hid hz
    by_cases hb : n < -1000000000000 ∨ 1000000000000 < n
    · have hc : IsCal c := by
        rcases c_cases c y m d with ⟨a, _⟩ | ⟨_, _, _, _⟩
        · exact a
        · omega
      have hx : x1 = 0 ∧ x2 = 0 ∧ x3 = 0 ∧ e = 1 := by
        rcases hf with hf | hf
        · exact fd_far c _ _ _ _ _ (by omega) hf.2
        · exact absurd hc hf.1
      obtain ⟨rfl, rfl, rfl, rfl⟩ := hx
      clear hf hz hc
      rcases hb with hb | hb
      all_goals
        go_enter Tryd.func46, Tryd.ntmps46
        go_wp2_with fail
        (go_at_call 26; refine (refToDay_ok _ _ _ _ _ HZ.out).mono ?_; rintro e w1 ⟨rfl, hk1⟩)
        have hB1_1 := hk1
        obtain ⟨hc1_1, hf1_1⟩ := kept_cells hB1_1
        have hz1_0_1 : w.heap.size < w1.heap.size := by have := hB1_1.size; simp at this; omega
        have hz1_1_1 : w.heap.size + 1 < w1.heap.size := by have := hB1_1.size; simp at this; omega
        go_wp2
        exact bodyPost_ret (v := .tuple #[.agg #[.int .i64 0, .int .i64 0, .int .i64 0], .int .i64 1]) (by simp [results, Tryd.results46, go_sem, *]) rfl ⟨rfl, (by repeat (first | with_reducible exact Kept.refl _ | with_reducible assumption | with_reducible refine Kept.drew ?_ | with_reducible refine Kept.drewN ?_ _ | with_reducible refine Kept.alloc ?_ _ | (with_reducible refine Kept.setCell ?_ (by first | exact Nat.le_refl _ | omega | (simp; done) | (simp; omega)) _) | (with_reducible refine Kept.trans ?_ (by with_reducible assumption))))⟩
    · have hb1 : -1000000000000 ≤ n := by omega
      have hb2 : n ≤ 1000000000000 := by omega
      have HF := Lib.hid hf
      clear hf hz hb
      go_enter Tryd.func46, Tryd.ntmps46
      go_wp2_with fail
      (go_at_call 26; refine (refToDay_ok _ _ _ _ _ HZ.out).mono ?_; rintro e w1 ⟨rfl, hk1⟩)
      have hB1_1 := hk1
      obtain ⟨hc1_1, hf1_1⟩ := kept_cells hB1_1
      have hz1_0_1 : w.heap.size < w1.heap.size := by have := hB1_1.size; simp at this; omega
      have hz1_1_1 : w.heap.size + 1 < w1.heap.size := by have := hB1_1.size; simp at this; omega
      go_wp2_with fail
      (go_at_call 42; refine (refFromDay_all _ _ _ _ _ _ _ HF.out).mono ?_; rintro e w2 ⟨rfl, hk2⟩)
      have hB1_2 := Kept.trans hB1_1 hk2
      obtain ⟨hc1_2, hf1_2⟩ := kept_cells hB1_2
      have hz1_0_2 : w.heap.size < w2.heap.size := by have := hB1_2.size; simp at this; omega
      have hz1_1_2 : w.heap.size + 1 < w2.heap.size := by have := hB1_2.size; simp at this; omega
      go_wp2
      exact bodyPost_ret (v := .tuple #[.agg #[.int .i64 x1, .int .i64 x2, .int .i64 x3], .int .i64 e]) (by simp [results, Tryd.results46, go_sem, *]) rfl ⟨rfl, (by repeat (first | with_reducible exact Kept.refl _ | with_reducible assumption | with_reducible refine Kept.drew ?_ | with_reducible refine Kept.drewN ?_ _ | with_reducible refine Kept.alloc ?_ _ | (with_reducible refine Kept.setCell ?_ (by first | exact Nat.le_refl _ | omega | (simp; done) | (simp; omega)) _) | (with_reducible refine Kept.trans ?_ (by with_reducible assumption))))⟩

theorem OfYear_all (c y m d : Int) (w : World) (hT : Tab w) :
    Calls Tryd.prog 14 #[.int .i64 c, .agg #[.int .i64 y, .int .i64 m, .int .i64 d]] w fun e' w' => e' = .returned (.tuple #[.int .i64 (oyN c y m d), .int .i64 (cE c y m d)]) ∧ Kept w w' := by
  have KT := Lib.hid (fun w' (k : Kept w w') => hT.kept k)
  clear hT
  by_cases hz : cE c y m d = 0
  · have hc := c_cases c y m d
    have hc : IsCal c ∧ OkD c y m d ∧ cN c y m d = num c y m d := by
      rcases hc with ⟨a, b, e, _⟩ | ⟨_, _, _⟩
      · exact ⟨a, b, e⟩
      · omega
    obtain ⟨hc, ho, hn⟩ := hc
    have h1 := ho.1
    have h2 := ho.2.1
    have hy := num_year c y m d ho
    have hfs := fst_succ c y
    obtain ⟨f1, f2⟩ := fst_bounds c y h1 (by omega)
    have hL : fst c y ≤ num c y m d ∧ num c y m d < fst c y + 366 := by
      have : (if lp c y then (1 : Int) else 0) ≤ 1 := by split <;> omega
      omega
    obtain ⟨hL1, hL2⟩ := hL
    have HE := Lib.hid (oy_pos c y m d hz)
    have KD := Lib.hid (fun w hT => CToDay_ok c y m d w hT hz)
    rw [hn] at KD
    rw [hz]
    clear hz hn hfs hy ho
    rcases hc with rfl | rfl
    · go_enter Tryd.func14, Tryd.ntmps14
      go_wp2_with fail
      (go_at_call 31; refine (KD.out _ (KT.out _ (by repeat (first | with_reducible exact Kept.refl _ | with_reducible assumption | with_reducible refine Kept.drew ?_ | with_reducible refine Kept.drewN ?_ _ | with_reducible refine Kept.alloc ?_ _ | (with_reducible refine Kept.setCell ?_ (by first | exact Nat.le_refl _ | omega | (simp; done) | (simp; omega)) _) | (with_reducible refine Kept.trans ?_ (by with_reducible assumption)))))).mono ?_; rintro e w1 ⟨rfl, hk1⟩)
      have hB1_1 := hk1
      obtain ⟨hc1_1, hf1_1⟩ := kept_cells hB1_1
      have hz1_0_1 : w.heap.size < w1.heap.size := by have := hB1_1.size; simp at this; omega
      go_wp2_with fail
      (go_at_call 47; refine (of_1 _).mono ?_; rintro e w2 ⟨rfl, hk2⟩)
      have hB1_2 := Kept.trans hB1_1 hk2
      obtain ⟨hc1_2, hf1_2⟩ := kept_cells hB1_2
      have hz1_0_2 : w.heap.size < w2.heap.size := by have := hB1_2.size; simp at this; omega
      go_wp2_with fail
      (go_at_call 65; refine (JFirst_ok _ _ h1 h2).mono ?_; rintro e w1 ⟨rfl, rfl⟩)
      go_wp2
      go_ret2
      exact ⟨by rw [HE.out]; rfl, (by repeat (first | with_reducible exact Kept.refl _ | with_reducible assumption | with_reducible refine Kept.drew ?_ | with_reducible refine Kept.drewN ?_ _ | with_reducible refine Kept.alloc ?_ _ | (with_reducible refine Kept.setCell ?_ (by first | exact Nat.le_refl _ | omega | (simp; done) | (simp; omega)) _) | (with_reducible refine Kept.trans ?_ (by with_reducible assumption))))⟩
    · go_enter Tryd.func14, Tryd.ntmps14
      go_wp2_with fail
      (go_at_call 31; refine (KD.out _ (KT.out _ (by repeat (first | with_reducible exact Kept.refl _ | with_reducible assumption | with_reducible refine Kept.drew ?_ | with_reducible refine Kept.drewN ?_ _ | with_reducible refine Kept.alloc ?_ _ | (with_reducible refine Kept.setCell ?_ (by first | exact Nat.le_refl _ | omega | (simp; done) | (simp; omega)) _) | (with_reducible refine Kept.trans ?_ (by with_reducible assumption)))))).mono ?_; rintro e w1 ⟨rfl, hk1⟩)
      have hB1_1 := hk1
      obtain ⟨hc1_1, hf1_1⟩ := kept_cells hB1_1
      have hz1_0_1 : w.heap.size < w1.heap.size := by have := hB1_1.size; simp at this; omega
      go_wp2_with fail
      (go_at_call 47; refine (of_2 _).mono ?_; rintro e w2 ⟨rfl, hk2⟩)
      have hB1_2 := Kept.trans hB1_1 hk2
      obtain ⟨hc1_2, hf1_2⟩ := kept_cells hB1_2
      have hz1_0_2 : w.heap.size < w2.heap.size := by have := hB1_2.size; simp at this; omega
      go_wp2_with fail
      (go_at_call 69; refine (First_ok _ _ h1 h2).mono ?_; rintro e w1 ⟨rfl, rfl⟩)
      go_wp2
      go_ret2
      exact ⟨by rw [HE.out]; rfl, (by repeat (first | with_reducible exact Kept.refl _ | with_reducible assumption | with_reducible refine Kept.drew ?_ | with_reducible refine Kept.drewN ?_ _ | with_reducible refine Kept.alloc ?_ _ | (with_reducible refine Kept.setCell ?_ (by first | exact Nat.le_refl _ | omega | (simp; done) | (simp; omega)) _) | (with_reducible refine Kept.trans ?_ (by with_reducible assumption))))⟩
  · have hp := cE_pos c y m d hz
    rw [show oyN c y m d = 0 from if_neg hz]
    clear hz
    go_enter Tryd.func14, Tryd.ntmps14
    go_wp2_with fail
    (go_at_call 31; refine (CToDay_all _ _ _ _ _ (KT.out _ (by repeat (first | with_reducible exact Kept.refl _ | with_reducible assumption | with_reducible refine Kept.drew ?_ | with_reducible refine Kept.drewN ?_ _ | with_reducible refine Kept.alloc ?_ _ | (with_reducible refine Kept.setCell ?_ (by first | exact Nat.le_refl _ | omega | (simp; done) | (simp; omega)) _) | (with_reducible refine Kept.trans ?_ (by with_reducible assumption)))))).mono ?_; rintro e w1 ⟨rfl, hk1⟩)
    have hB1_1 := hk1
    obtain ⟨hc1_1, hf1_1⟩ := kept_cells hB1_1
    have hz1_0_1 : w.heap.size < w1.heap.size := by have := hB1_1.size; simp at this; omega
    go_wp2
    go_ret2
    exact ⟨rfl, (by repeat (first | with_reducible exact Kept.refl _ | with_reducible assumption | with_reducible refine Kept.drew ?_ | with_reducible refine Kept.drewN ?_ _ | with_reducible refine Kept.alloc ?_ _ | (with_reducible refine Kept.setCell ?_ (by first | exact Nat.le_refl _ | omega | (simp; done) | (simp; omega)) _) | (with_reducible refine Kept.trans ?_ (by with_reducible assumption))))⟩
theorem refOfYear_all (c y m d : Int) (w : World) :
    Calls Tryd.prog 28 #[.int .i64 c, .agg #[.int .i64 y, .int .i64 m, .int .i64 d]] w fun e' w' => e' = .returned (.tuple #[.int .i64 (oyN c y m d), .int .i64 (cE c y m d)]) ∧ Kept w w' := by
  by_cases hz : cE c y m d = 0
  · have hc := c_cases c y m d
    have hc : IsCal c ∧ OkD c y m d := by
      rcases hc with ⟨a, b, e, _⟩ | ⟨_, _, _⟩
      · exact ⟨a, b⟩
      · omega
    obtain ⟨hc, h1, h2, h3, h4, h5, h6⟩ := hc
    have hb := mlen_bounds (lp c y) m h3 h4
    have HE : Hid (oyN c y m d = cum (lp c y) m + d) := if_pos hz
    have KD := Lib.hid (fun w => refToDay_ok c y m d w hz)
    have HC := Lib.hid (cum_succ (lp c y))
    rw [hz]
    clear hz hc
    go_enter Tryd.func28, Tryd.ntmps28
    go_wp2_with fail
    (go_at_call 26; refine (KD.out _).mono ?_; rintro e w1 ⟨rfl, hk1⟩)
    have hB1_1 := hk1
    obtain ⟨hc1_1, hf1_1⟩ := kept_cells hB1_1
    have hz1_0_1 : w.heap.size < w1.heap.size := by have := hB1_1.size; simp at this; omega
    go_wp2_with fail
    go_loopw [8, 9] (fun t i wr => Kept w1 wr ∧ ∃ k : Int, 1 ≤ k ∧ k ≤ m ∧ i = .int .i64 k ∧ t = .int .i64 (cum (lp c y) k + d)) (fun _ i _ => (m - intOf i).toNat)
    case atStart => exact ⟨Kept.refl _, 1, by omega, by omega, rfl, by rw [cum_1, Int.zero_add]⟩
    case round =>
      obtain ⟨hK, k, hk1, hk2, rfl, rfl⟩ := hrel
      have hB := Kept.trans hB1_1 hK
      obtain ⟨hcX, hfX⟩ := kept_cells hB
      have cb := cum_bounds (lp c y) k hk1 (by omega)
      have mb := mlen_bounds (lp c y) k hk1 (by omega)
      by_cases hlt : k < m
      · go_wp2_with fail
        (go_at_call 21; refine (refLeap_any _ _ _ (by omega) (by omega)).mono ?_; rintro e w1 ⟨rfl, rfl⟩)
        go_wp2_with (go_at_call 48; refine (rLen_any _ _ _).mono ?_; rintro e w1 ⟨rfl, rfl⟩)
        go_roundw
        case rel => exact ⟨(by repeat (first | with_reducible exact Kept.refl _ | with_reducible assumption | with_reducible refine Kept.drew ?_ | with_reducible refine Kept.drewN ?_ _ | with_reducible refine Kept.alloc ?_ _ | (with_reducible refine Kept.setCell ?_ (by first | exact Nat.le_refl _ | omega | (simp; done) | (simp; omega)) _) | (with_reducible refine Kept.trans ?_ (by with_reducible assumption)))), k + 1, by omega, by omega, rfl, by rw [HC.out k hk1 (by omega)]; go_num⟩
        case measure => simp [intOf]; omega
      · have hk : k = m := by omega
        subst hk
        go_wp2_with fail
        go_ret2
        exact ⟨by rw [HE.out]; rfl, (by repeat (first | with_reducible exact Kept.refl _ | with_reducible assumption | with_reducible refine Kept.drew ?_ | with_reducible refine Kept.drewN ?_ _ | with_reducible refine Kept.alloc ?_ _ | (with_reducible refine Kept.setCell ?_ (by first | exact Nat.le_refl _ | omega | (simp; done) | (simp; omega)) _) | (with_reducible refine Kept.trans ?_ (by with_reducible assumption))))⟩
  · have hp := cE_pos c y m d hz
    rw [show oyN c y m d = 0 from if_neg hz]
    clear hz
    go_enter Tryd.func28, Tryd.ntmps28
    go_wp2_with fail
    (go_at_call 26; refine (refToDay_all _ _ _ _ _).mono ?_; rintro e w1 ⟨rfl, hk1⟩)
    have hB1_1 := hk1
    obtain ⟨hc1_1, hf1_1⟩ := kept_cells hB1_1
    have hz1_0_1 : w.heap.size < w1.heap.size := by have := hB1_1.size; simp at this; omega
    go_wp2
    go_ret2
    exact ⟨rfl, (by repeat (first | with_reducible exact Kept.refl _ | with_reducible assumption | with_reducible refine Kept.drew ?_ | with_reducible refine Kept.drewN ?_ _ | with_reducible refine Kept.alloc ?_ _ | (with_reducible refine Kept.setCell ?_ (by first | exact Nat.le_refl _ | omega | (simp; done) | (simp; omega)) _) | (with_reducible refine Kept.trans ?_ (by with_reducible assumption))))⟩
end Go.Proofs.YtcfgiboknkkheaaDoor

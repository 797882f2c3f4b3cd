/- Contracts: package civil: Shift; days of the week. -/
import Derived.Test.YtdmgnanpjkimlaaDoorCiv
set_option linter.unusedSimpArgs false
set_option linter.unusedVariables false
set_option linter.unusedSectionVars false
namespace Go.Proofs.YtdmgnanpjkimlaaDoor
open Go.ChangeShapes Go.WideShapes Go.ChangeAt Go.RowKit
set_option maxHeartbeats 800000

theorem CToDay_ok (c y m d : Int) (w : World) (hT : Tab w) (h : cE c y m d = 0) :
    Calls Tryd.prog 18 #[.int .i64 c, .agg #[.int .i64 y, .int .i64 m, .int .i64 d]] w fun e w' => e = .returned (.tuple #[.int .i64 (cN c y m d), .int .i64 0]) ∧ Kept w w' := by
  have := CToDay_all c y m d w hT
  rwa [h] at this
theorem refToDay_ok (c y m d : Int) (w : World) (h : cE c y m d = 0) :
    Calls Tryd.prog 16 #[.int .i64 c, .agg #[.int .i64 y, .int .i64 m, .int .i64 d]] w fun e w' => e = .returned (.tuple #[.int .i64 (cN c y m d), .int .i64 0]) ∧ Kept w w' := by
  have := refToDay_all c y m d w
  rwa [h] at this
theorem cE_pos (c y m d : Int) (h : cE c y m d ≠ 0) : 1 ≤ cE c y m d := by
  rcases c_cases c y m d with ⟨_, _, _, h'⟩ | ⟨_, h', _⟩ <;> omega
theorem of_any (c : Int) (w : World) (h : IsCal c) : ∃ v1 v2 v3 v4, Calls Tryd.prog 30 #[.int .i64 c] w fun e w' => e = .returned (.tuple #[.agg #[.func (.func v1) #[] #[], .func (.func v2) #[] #[], .func (.func v3) #[] #[], .func (.func v4) #[] #[]], .int .i64 0]) ∧ Kept w w' := by
  rcases h with rfl | rfl
  · exact ⟨_, _, _, _, of_1 w⟩
  · exact ⟨_, _, _, _, of_2 w⟩

theorem Shift_all (c y m d n x1 x2 x3 e : Int) (w : World) (hT : Tab w) (hs : ShRel c y m d n x1 x2 x3 e) (hn : -9223372036854775808 ≤ n ∧ n ≤ 9223372036854775807) :
    Calls Tryd.prog 13 #[.int .i64 c, .agg #[.int .i64 y, .int .i64 m, .int .i64 d], .int .i64 n] w fun e' w' => e' = .returned (.tuple #[.agg #[.int .i64 x1, .int .i64 x2, .int .i64 x3], .int .i64 e]) ∧ Kept w w' := by
  have KT := Lib.hid (fun w' (k : Kept w w') => hT.kept k)
  clear hT
  obtain ⟨n1, n2⟩ := cN_bounds c y m d
  obtain ⟨n3, n4⟩ := hn
  rcases hs with ⟨hz, rfl, rfl, rfl, rfl⟩ | ⟨hz, hf⟩
  · have hp := cE_pos c y m d hz
    clear hz
    go_enter Tryd.func13, Tryd.ntmps13
    go_wp2_with fail
    (go_at_call 18; refine (CToDay_all _ _ _ _ _ (KT.out _ (by repeat (first | with_reducible exact Kept.refl _ | with_reducible assumption | with_reducible refine Kept.drew ?_ | with_reducible refine Kept.drewN ?_ _ | with_reducible refine Kept.alloc ?_ _ | (with_reducible refine Kept.setCell ?_ (by first | exact Nat.le_refl _ | omega | (simp; done) | (simp; omega)) _) | (with_reducible refine Kept.trans ?_ (by with_reducible assumption)))))).mono ?_; rintro e w1 ⟨rfl, hk1⟩)
    have hB1_1 := hk1
    obtain ⟨hc1_1, hf1_1⟩ := kept_cells hB1_1
    have hz1_0_1 : w.heap.size < w1.heap.size := by have := hB1_1.size; simp at this; omega
    have hz1_1_1 : w.heap.size + 1 < w1.heap.size := by have := hB1_1.size; simp at this; omega
    go_wp2
    exact bodyPost_ret (v := .tuple #[.agg #[.int .i64 0, .int .i64 0, .int .i64 0], .int .i64 (cE c y m d)]) (by simp [results, Tryd.results13, go_sem, *]) rfl ⟨rfl, (by repeat (first | with_reducible exact Kept.refl _ | with_reducible assumption | with_reducible refine Kept.drew ?_ | with_reducible refine Kept.drewN ?_ _ | with_reducible refine Kept.alloc ?_ _ | (with_reducible refine Kept.setCell ?_ (by first | exact Nat.le_refl _ | omega | (simp; done) | (simp; omega)) _) | (with_reducible refine Kept.trans ?_ (by with_reducible assumption))))⟩
  · have HZ := Lib.hid hz
    by_cases hb : n < -1099511627776 ∨ 1099511627776 < n
    · have hc : IsCal c := by
        rcases c_cases c y m d with ⟨a, _⟩ | ⟨_, _, _, _⟩
        · exact a
        · omega
      have hx : x1 = 0 ∧ x2 = 0 ∧ x3 = 0 ∧ e = 1 := by
        rcases hf with hf | hf
        · exact fd_far c _ _ _ _ _ (by omega) hf.2
        · exact absurd hc hf.1
      obtain ⟨rfl, rfl, rfl, rfl⟩ := hx
      clear hf hz hc
      rcases hb with hb | hb
      all_goals
        go_enter Tryd.func13, Tryd.ntmps13
        go_wp2_with fail
        (go_at_call 18; refine (CToDay_ok _ _ _ _ _ (KT.out _ (by repeat (first | with_reducible exact Kept.refl _ | with_reducible assumption | with_reducible refine Kept.drew ?_ | with_reducible refine Kept.drewN ?_ _ | with_reducible refine Kept.alloc ?_ _ | (with_reducible refine Kept.setCell ?_ (by first | exact Nat.le_refl _ | omega | (simp; done) | (simp; omega)) _) | (with_reducible refine Kept.trans ?_ (by with_reducible assumption))))) HZ.out).mono ?_; rintro e w1 ⟨rfl, hk1⟩)
        have hB1_1 := hk1
        obtain ⟨hc1_1, hf1_1⟩ := kept_cells hB1_1
        have hz1_0_1 : w.heap.size < w1.heap.size := by have := hB1_1.size; simp at this; omega
        have hz1_1_1 : w.heap.size + 1 < w1.heap.size := by have := hB1_1.size; simp at this; omega
        go_wp2
        exact bodyPost_ret (v := .tuple #[.agg #[.int .i64 0, .int .i64 0, .int .i64 0], .int .i64 1]) (by simp [results, Tryd.results13, go_sem, *]) rfl ⟨rfl, (by repeat (first | with_reducible exact Kept.refl _ | with_reducible assumption | with_reducible refine Kept.drew ?_ | with_reducible refine Kept.drewN ?_ _ | with_reducible refine Kept.alloc ?_ _ | (with_reducible refine Kept.setCell ?_ (by first | exact Nat.le_refl _ | omega | (simp; done) | (simp; omega)) _) | (with_reducible refine Kept.trans ?_ (by with_reducible assumption))))⟩
    · have hb1 : -1099511627776 ≤ n := by omega
      have hb2 : n ≤ 1099511627776 := by omega
      have HF := Lib.hid hf
      clear hf hz hb
      go_enter Tryd.func13, Tryd.ntmps13
      go_wp2_with fail
      (go_at_call 18; refine (CToDay_ok _ _ _ _ _ (KT.out _ (by repeat (first | with_reducible exact Kept.refl _ | with_reducible assumption | with_reducible refine Kept.drew ?_ | with_reducible refine Kept.drewN ?_ _ | with_reducible refine Kept.alloc ?_ _ | (with_reducible refine Kept.setCell ?_ (by first | exact Nat.le_refl _ | omega | (simp; done) | (simp; omega)) _) | (with_reducible refine Kept.trans ?_ (by with_reducible assumption))))) HZ.out).mono ?_; rintro e w1 ⟨rfl, hk1⟩)
      have hB1_1 := hk1
      obtain ⟨hc1_1, hf1_1⟩ := kept_cells hB1_1
      have hz1_0_1 : w.heap.size < w1.heap.size := by have := hB1_1.size; simp at this; omega
      have hz1_1_1 : w.heap.size + 1 < w1.heap.size := by have := hB1_1.size; simp at this; omega
      go_wp2_with fail
      (go_at_call 25; refine (CFromDay_all _ _ _ _ _ _ _ (KT.out _ (by repeat (first | with_reducible exact Kept.refl _ | with_reducible assumption | with_reducible refine Kept.drew ?_ | with_reducible refine Kept.drewN ?_ _ | with_reducible refine Kept.alloc ?_ _ | (with_reducible refine Kept.setCell ?_ (by first | exact Nat.le_refl _ | omega | (simp; done) | (simp; omega)) _) | (with_reducible refine Kept.trans ?_ (by with_reducible assumption))))) HF.out).mono ?_; rintro e w2 ⟨rfl, hk2⟩)
      have hB1_2 := Kept.trans hB1_1 hk2
      obtain ⟨hc1_2, hf1_2⟩ := kept_cells hB1_2
      have hz1_0_2 : w.heap.size < w2.heap.size := by have := hB1_2.size; simp at this; omega
      have hz1_1_2 : w.heap.size + 1 < w2.heap.size := by have := hB1_2.size; simp at this; omega
      go_wp2
      exact bodyPost_ret (v := .tuple #[.agg #[.int .i64 x1, .int .i64 x2, .int .i64 x3], .int .i64 e]) (by simp [results, Tryd.results13, go_sem, *]) rfl ⟨rfl, (by repeat (first | with_reducible exact Kept.refl _ | with_reducible assumption | with_reducible refine Kept.drew ?_ | with_reducible refine Kept.drewN ?_ _ | with_reducible refine Kept.alloc ?_ _ | (with_reducible refine Kept.setCell ?_ (by first | exact Nat.le_refl _ | omega | (simp; done) | (simp; omega)) _) | (with_reducible refine Kept.trans ?_ (by with_reducible assumption))))⟩
end Go.Proofs.YtdmgnanpjkimlaaDoor

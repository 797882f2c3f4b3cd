/- Contracts: package gregorian, the date of a number. -/
import Derived.Test.YtdmgnanpjkimlaaDoorGreg2
set_option linter.unusedSimpArgs false
set_option linter.unusedVariables false
set_option linter.unusedSectionVars false
namespace Go.Proofs.YtdmgnanpjkimlaaDoor
open Go.ChangeShapes Go.WideShapes Go.ChangeAt Go.RowKit
set_option maxHeartbeats 800000

theorem ix0 (w : World) : (Instr.index 82 (.agg #[.int .i64 400, .int .i64 146097, .int .i64 4611686018427387904, .int .i64 100, .int .i64 36524, .int .i64 3, .int .i64 4, .int .i64 1461, .int .i64 24, .int .i64 1, .int .i64 365, .int .i64 3]) (.int .i64 0)).run Tryd.prog w = .ok (.agg #[.int .i64 400, .int .i64 146097, .int .i64 4611686018427387904]) w := by kernel_rfl
theorem ix1 (w : World) : (Instr.index 82 (.agg #[.int .i64 400, .int .i64 146097, .int .i64 4611686018427387904, .int .i64 100, .int .i64 36524, .int .i64 3, .int .i64 4, .int .i64 1461, .int .i64 24, .int .i64 1, .int .i64 365, .int .i64 3]) (.int .i64 1)).run Tryd.prog w = .ok (.agg #[.int .i64 100, .int .i64 36524, .int .i64 3]) w := by kernel_rfl
theorem ix2 (w : World) : (Instr.index 82 (.agg #[.int .i64 400, .int .i64 146097, .int .i64 4611686018427387904, .int .i64 100, .int .i64 36524, .int .i64 3, .int .i64 4, .int .i64 1461, .int .i64 24, .int .i64 1, .int .i64 365, .int .i64 3]) (.int .i64 2)).run Tryd.prog w = .ok (.agg #[.int .i64 4, .int .i64 1461, .int .i64 24]) w := by kernel_rfl
theorem ix3 (w : World) : (Instr.index 82 (.agg #[.int .i64 400, .int .i64 146097, .int .i64 4611686018427387904, .int .i64 100, .int .i64 36524, .int .i64 3, .int .i64 4, .int .i64 1461, .int .i64 24, .int .i64 1, .int .i64 365, .int .i64 3]) (.int .i64 3)).run Tryd.prog w = .ok (.agg #[.int .i64 1, .int .i64 365, .int .i64 3]) w := by kernel_rfl
attribute [local go_sem] ix0 ix1 ix2 ix3
/-- What the loop over the lengths of 400, 100, 4 and 1 years has found, at its four heads and at its end. -/
def YRel (n : Int) (r o i : Int) : Prop :=
  (i = 0 ∧ r = n - 1 ∧ o = 1) ∨
  (i = 1 ∧ ∃ a, 0 ≤ a ∧ a ≤ 2500000 ∧ r = n - 1 - 146097 * a ∧ 0 ≤ r ∧ r < 146097 ∧ o = 1 + 400 * a) ∨
  (i = 2 ∧ ∃ a b, 0 ≤ a ∧ a ≤ 2500000 ∧ 0 ≤ b ∧ b ≤ 3 ∧ r = n - 1 - 146097 * a - 36524 * b ∧ 0 ≤ r ∧ r < 36525 ∧ (b < 3 → r < 36524) ∧ o = 1 + 400 * a + 100 * b) ∨
  (i = 3 ∧ ∃ a b c, 0 ≤ a ∧ a ≤ 2500000 ∧ 0 ≤ b ∧ b ≤ 3 ∧ 0 ≤ c ∧ c ≤ 24 ∧ r = n - 1 - 146097 * a - 36524 * b - 1461 * c ∧ 0 ≤ r ∧ r < 1461 ∧ (b < 3 → c = 24 → r < 1460) ∧ o = 1 + 400 * a + 100 * b + 4 * c) ∨
  (i = 4 ∧ ∃ a b c d, 0 ≤ a ∧ a ≤ 2500000 ∧ 0 ≤ b ∧ b ≤ 3 ∧ 0 ≤ c ∧ c ≤ 24 ∧ 0 ≤ d ∧ d ≤ 3 ∧ r = n - 1 - 146097 * a - 36524 * b - 1461 * c - 365 * d ∧ 0 ≤ r ∧ r < 366 ∧ (d < 3 → r < 365) ∧ (b < 3 → c = 24 → r < 365) ∧ o = 1 + 400 * a + 100 * b + 4 * c + d)
theorem YRel_end (n r o y : Int) (h : YRel n r o 4) (h1 : fst 2 y ≤ n) (h2 : n < fst 2 (y + 1)) : o = y := by
  unfold YRel at h
  rcases h with ⟨h, _⟩ | ⟨h, _⟩ | ⟨h, _⟩ | ⟨h, _⟩ | ⟨_, a, b, c, d, a1, a2, b1, b2, c1, c2, d1, d2, e1, e2, e3, e4, e5, rfl⟩
  · omega
  · omega
  · omega
  · omega
  · have e : fst 2 (1 + 400 * a + 100 * b + 4 * c + d) = 1 + 146097 * a + 36524 * b + 1461 * c + 365 * d := by
      unfold fst; simp only [show ¬ (2 : Int) = 1 from by decide, if_false]; omega
    have g : (0 : Int) ≤ if lp 2 (1 + 400 * a + 100 * b + 4 * c + d) then 1 else 0 := by split <;> omega
    have g2 : r = 365 → (if lp 2 (1 + 400 * a + 100 * b + 4 * c + d) then (1 : Int) else 0) = 1 := by
      intro hr
      obtain rfl : d = 3 := by omega
      rw [if_pos]
      rw [lp_true, decide_eq_true_iff]
      by_cases hc : c = 24
      · have : b = 3 := by omega
        omega
      · omega
    have f := fst_succ 2 (1 + 400 * a + 100 * b + 4 * c + d)
    exact year_unique 2 n _ y (by omega) (by rw [f]; omega) h1 h2
theorem YRel_0 (n : Int) (h1 : 1 ≤ n) (h2 : n < 365242500001) : YRel n (n - 1 - (n - 1) / 146097 * 146097) (1 + (n - 1) / 146097 * 400) 1 :=
  .inr (.inl ⟨rfl, (n - 1) / 146097, by omega, by omega, by omega, by omega, by omega, by omega⟩)
theorem YRel_1 (n r a : Int) (a1 : 0 ≤ a) (a2 : a ≤ 2500000) (e1 : r = n - 1 - 146097 * a) (e2 : 0 ≤ r) (e3 : r < 146097) :
    YRel n (r - (if 3 < r / 36524 then 3 else r / 36524) * 36524) (1 + 400 * a + (if 3 < r / 36524 then 3 else r / 36524) * 100) 2 := by
  refine .inr (.inr (.inl ⟨rfl, a, if 3 < r / 36524 then 3 else r / 36524, a1, a2, ?_⟩))
  split <;> (refine ⟨?_, ?_, ?_, ?_, ?_, ?_, ?_⟩ <;> omega)
theorem YRel_2 (n r a b : Int) (a1 : 0 ≤ a) (a2 : a ≤ 2500000) (b1 : 0 ≤ b) (b2 : b ≤ 3) (e1 : r = n - 1 - 146097 * a - 36524 * b) (e2 : 0 ≤ r) (e3 : r < 36525) (e4 : b < 3 → r < 36524) :
    YRel n (r - r / 1461 * 1461) (1 + 400 * a + 100 * b + r / 1461 * 4) 3 := by
  refine .inr (.inr (.inr (.inl ⟨rfl, a, b, r / 1461, a1, a2, b1, b2, ?_⟩)))
  refine ⟨?_, ?_, ?_, ?_, ?_, ?_, ?_⟩ <;> omega
theorem YRel_3 (n r a b c : Int) (a1 : 0 ≤ a) (a2 : a ≤ 2500000) (b1 : 0 ≤ b) (b2 : b ≤ 3) (c1 : 0 ≤ c) (c2 : c ≤ 24) (e1 : r = n - 1 - 146097 * a - 36524 * b - 1461 * c) (e2 : 0 ≤ r) (e3 : r < 1461) (e4 : b < 3 → c = 24 → r < 1460) :
    YRel n (r - (if 3 < r / 365 then 3 else r / 365) * 365) (1 + 400 * a + 100 * b + 4 * c + (if 3 < r / 365 then 3 else r / 365)) 4 := by
  refine .inr (.inr (.inr (.inr ⟨rfl, a, b, c, if 3 < r / 365 then 3 else r / 365, a1, a2, b1, b2, c1, c2, ?_⟩)))
  split <;> (refine ⟨?_, ?_, ?_, ?_, ?_, ?_, ?_, ?_⟩ <;> omega)
theorem year_any (n y : Int) (w : World) (h1 : 1 ≤ n) (h2 : n < 365242500001) (h3 : fst 2 y ≤ n) (h4 : n < fst 2 (y + 1)) :
    Calls Tryd.prog 75 #[.int .i64 n] w fun e w' => e = .returned (.int .i64 y) ∧ Kept w w' := by
  have HE := Lib.hid (fun r o h => YRel_end n r o y h h3 h4)
  clear h3 h4
  go_enter Tryd.func75, Tryd.ntmps75
  go_wp2
  go_loopw [3, 4, 7, 8, 16] (fun rv ov q s iv wr => Kept w wr ∧ ∃ r o i : Int, YRel n r o i ∧ rv = .int .i64 r ∧ ov = .int .i64 o ∧ iv = .int .i64 i) (fun r o q s i _ => (4 - intOf i).toNat)
  case atStart => exact ⟨Kept.refl _, _, _, _, .inl ⟨rfl, rfl, rfl⟩, rfl, rfl, rfl⟩
  case round =>
    obtain ⟨hK, r, o, i, hY, rfl, rfl, rfl⟩ := hrel
    have HY := Lib.hid hY
    unfold YRel at hY
    rcases hY with ⟨rfl, rfl, rfl⟩ | ⟨rfl, a, a1, a2, e1, e2, e3, rfl⟩ | ⟨rfl, a, b, a1, a2, b1, b2, e1, e2, e3, e4, rfl⟩ | ⟨rfl, a, b, c, a1, a2, b1, b2, c1, c2, e1, e2, e3, e4, rfl⟩ | ⟨rfl, _⟩
    · clear HY
      go_wp2_with (go_at_call 69; refine (IDiv_any _ _ _ (by omega) (by omega) (by omega) (by omega)).mono ?_; rintro e w1 ⟨rfl, rfl⟩)
      go_roundw
      case rel => exact ⟨(by repeat (first | with_reducible exact Kept.refl _ | with_reducible assumption | with_reducible refine Kept.drew ?_ | with_reducible refine Kept.drewN ?_ _ | with_reducible refine Kept.alloc ?_ _ | (with_reducible refine Kept.setCell ?_ (by first | exact Nat.le_refl _ | omega | (simp; done) | (simp; omega)) _) | (with_reducible refine Kept.trans ?_ (by with_reducible assumption)))), _, _, _, YRel_0 n h1 h2, rfl, rfl, rfl⟩
      case measure => simp [intOf]
    · clear HY
      have E1 := Lib.hid e1
      clear e1
      go_wp2_with (go_at_call 69; refine (IDiv_any _ _ _ (by omega) (by omega) (by omega) (by omega)).mono ?_; rintro e w1 ⟨rfl, rfl⟩)
      go_roundw
      case rel => exact ⟨(by repeat (first | with_reducible exact Kept.refl _ | with_reducible assumption | with_reducible refine Kept.drew ?_ | with_reducible refine Kept.drewN ?_ _ | with_reducible refine Kept.alloc ?_ _ | (with_reducible refine Kept.setCell ?_ (by first | exact Nat.le_refl _ | omega | (simp; done) | (simp; omega)) _) | (with_reducible refine Kept.trans ?_ (by with_reducible assumption)))), _, _, _, YRel_1 n r a a1 a2 E1.out e2 e3, rfl, rfl, rfl⟩
      case measure => simp [intOf]
    · clear HY
      have E1 := Lib.hid e1
      have E4 := Lib.hid e4
      clear e1 e4
      go_wp2_with (go_at_call 69; refine (IDiv_any _ _ _ (by omega) (by omega) (by omega) (by omega)).mono ?_; rintro e w1 ⟨rfl, rfl⟩)
      go_roundw
      case rel => exact ⟨(by repeat (first | with_reducible exact Kept.refl _ | with_reducible assumption | with_reducible refine Kept.drew ?_ | with_reducible refine Kept.drewN ?_ _ | with_reducible refine Kept.alloc ?_ _ | (with_reducible refine Kept.setCell ?_ (by first | exact Nat.le_refl _ | omega | (simp; done) | (simp; omega)) _) | (with_reducible refine Kept.trans ?_ (by with_reducible assumption)))), _, _, _, YRel_2 n r a b a1 a2 b1 b2 E1.out e2 e3 E4.out, rfl, rfl, rfl⟩
      case measure => simp [intOf]
    · clear HY
      have E1 := Lib.hid e1
      have E4 := Lib.hid e4
      clear e1 e4
      go_wp2_with (go_at_call 69; refine (IDiv_any _ _ _ (by omega) (by omega) (by omega) (by omega)).mono ?_; rintro e w1 ⟨rfl, rfl⟩)
      go_roundw
      case rel => exact ⟨(by repeat (first | with_reducible exact Kept.refl _ | with_reducible assumption | with_reducible refine Kept.drew ?_ | with_reducible refine Kept.drewN ?_ _ | with_reducible refine Kept.alloc ?_ _ | (with_reducible refine Kept.setCell ?_ (by first | exact Nat.le_refl _ | omega | (simp; done) | (simp; omega)) _) | (with_reducible refine Kept.trans ?_ (by with_reducible assumption)))), _, _, _, YRel_3 n r a b c a1 a2 b1 b2 c1 c2 E1.out e2 e3 E4.out, rfl, rfl, rfl⟩
      case measure => simp [intOf]
    · go_wp2
      go_ret
      exact ⟨ret_int (HE.out _ _ HY.out), hK⟩

theorem FromDay_no (n : Int) (w : World) (h : n < 1 ∨ 365242500001 ≤ n) :
    Calls Tryd.prog 52 #[.int .i64 n] w fun e w' => e = .returned (.tuple #[.agg #[.int .i64 0, .int .i64 0, .int .i64 0], .int .i64 1]) ∧ Kept w w' := by
  have F1 := fun w => first_any 1 w (by omega) (by omega)
  have F2 := fun w => first_any 1000000001 w (by omega) (by omega)
  rw [fst_one, if_neg (by decide)] at F1
  rw [fst_top, if_neg (by decide)] at F2
  have K1 := Lib.hid F1
  have K2 := Lib.hid F2
  clear F1 F2
  rcases h with h | h
  · go_enter Tryd.func52, Tryd.ntmps52
    go_wp2_with (first | (go_at_call 73; (with_reducible refine (K1.out _).mono ?_); rintro e w1 ⟨rfl, rfl⟩) | (go_at_call 73; (with_reducible refine (K2.out _).mono ?_); rintro e w1 ⟨rfl, rfl⟩))
    exact bodyPost_ret (v := .tuple #[.agg #[.int .i64 0, .int .i64 0, .int .i64 0], .int .i64 1]) (by simp [results, Tryd.results52, go_sem, *]) rfl ⟨rfl, (by repeat (first | with_reducible exact Kept.refl _ | with_reducible assumption | with_reducible refine Kept.drew ?_ | with_reducible refine Kept.drewN ?_ _ | with_reducible refine Kept.alloc ?_ _ | (with_reducible refine Kept.setCell ?_ (by first | exact Nat.le_refl _ | omega | (simp; done) | (simp; omega)) _) | (with_reducible refine Kept.trans ?_ (by with_reducible assumption))))⟩
  · have h' : 1 ≤ n := by omega
    go_enter Tryd.func52, Tryd.ntmps52
    go_wp2_with (first | (go_at_call 73; (with_reducible refine (K1.out _).mono ?_); rintro e w1 ⟨rfl, rfl⟩) | (go_at_call 73; (with_reducible refine (K2.out _).mono ?_); rintro e w1 ⟨rfl, rfl⟩))
    exact bodyPost_ret (v := .tuple #[.agg #[.int .i64 0, .int .i64 0, .int .i64 0], .int .i64 1]) (by simp [results, Tryd.results52, go_sem, *]) rfl ⟨rfl, (by repeat (first | with_reducible exact Kept.refl _ | with_reducible assumption | with_reducible refine Kept.drew ?_ | with_reducible refine Kept.drewN ?_ _ | with_reducible refine Kept.alloc ?_ _ | (with_reducible refine Kept.setCell ?_ (by first | exact Nat.le_refl _ | omega | (simp; done) | (simp; omega)) _) | (with_reducible refine Kept.trans ?_ (by with_reducible assumption))))⟩
theorem FromDay_ok (n y m d : Int) (w : World) (h : OkD 2 y m d) (e : num 2 y m d = n) :
    Calls Tryd.prog 52 #[.int .i64 n] w fun e w' => e = .returned (.tuple #[.agg #[.int .i64 y, .int .i64 m, .int .i64 d], .int .i64 0]) ∧ Kept w w' := by
  have F1 := fun w => first_any 1 w (by omega) (by omega)
  have F2 := fun w => first_any 1000000001 w (by omega) (by omega)
  rw [fst_one, if_neg (by decide)] at F1
  rw [fst_top, if_neg (by decide)] at F2
  have K1 := Lib.hid F1
  have K2 := Lib.hid F2
  clear F1 F2
  have hy := num_year 2 y m d h
  have hn := num_bounds 2 y m d h
  rw [fst_one, fst_top, if_neg (by decide), if_neg (by decide), e] at hn
  rw [e] at hy
  have HY := fun w => year_any n y w hn.1 hn.2 hy.1 hy.2
  have KY := Lib.hid HY
  clear HY
  obtain ⟨hn1, hn2⟩ := hn
  obtain ⟨h1, h2, h3, h4, h5, h6⟩ := h
  have KC := Lib.hid (cum_succ (lp 2 y))
  have KM := Lib.hid (cum_mono (lp 2 y))
  obtain ⟨hf1, hf2⟩ := fst_bounds 2 y h1 (by omega)
  have hb := mlen_bounds (lp 2 y) m h3 h4
  have hcm := cum_bounds (lp 2 y) m h3 (by omega)
  have HE : Hid (n = fst 2 y + cum (lp 2 y) m + d - 1) := e.symm
  clear e hy
  go_enter Tryd.func52, Tryd.ntmps52
  go_wp2_with fail
  (go_at_call 73; refine (K1.out _).mono ?_; rintro e w1 ⟨rfl, rfl⟩)
  go_wp2_with fail
  (go_at_call 73; refine (K2.out _).mono ?_; rintro e w1 ⟨rfl, rfl⟩)
  go_wp2_with fail
  (go_at_call 75; refine (KY.out _).mono ?_; rintro e w1 ⟨rfl, hk1⟩)
  have hB1_1 := hk1
  obtain ⟨hc1_1, hf1_1⟩ := kept_cells hB1_1
  have hz1_0_1 : w.heap.size < w1.heap.size := by have := hB1_1.size; simp at this; omega
  go_wp2_with fail
  (go_at_call 73; refine (first_any _ _ h1 (by omega)).mono ?_; rintro e w1 ⟨rfl, rfl⟩)
  rw [HE.out, show fst 2 y + cum (lp 2 y) m + d - 1 = fst 2 y + (cum (lp 2 y) m + d - 1) from by omega]
  go_wp2_with fail
  go_loopw [5] (fun t wr => ∃ k : Int, 1 ≤ k ∧ k ≤ m ∧ t = .int .i64 (cum (lp 2 y) m + d - 1 - cum (lp 2 y) k) ∧ wr = w1.alloc (.cells #[.int .i64 y, .int .i64 k, .int .i64 0] 23)) (fun t _ => (intOf t).toNat)
  case atStart => exact ⟨1, by omega, by omega, by rw [cum_1]; go_num, rfl⟩
  case round =>
    obtain ⟨k, hk1, hk2, rfl, rfl⟩ := hrel
    have cb := cum_bounds (lp 2 y) k hk1 (by omega)
    have mb := mlen_bounds (lp 2 y) k hk1 (by omega)
    by_cases hlt : k < m
    · have mm := KM.out k m hk1 hlt (by omega)
      go_wp2_with (go_at_call 74; refine (Length_any _ _ _).mono ?_; rintro e w1 ⟨rfl, rfl⟩)
      go_roundw
      case rel => exact ⟨k + 1, by omega, by omega, by rw [KC.out k hk1 (by omega)]; go_num, rfl⟩
      case measure => simp [intOf]; omega
    · have hk : k = m := by omega
      subst hk
      clear hlt hk1 hk2
      go_wp2_with (go_at_call 74; refine (Length_any _ _ _).mono ?_; rintro e w1 ⟨rfl, rfl⟩)
      exact bodyPost_ret (v := .tuple #[.agg #[.int .i64 y, .int .i64 k, .int .i64 (cum (lp 2 y) k + d - 1 - cum (lp 2 y) k + 1)], .int .i64 0]) (by simp [results, Tryd.results52, go_sem, *]) rfl ⟨by rw [show cum (lp 2 y) k + d - 1 - cum (lp 2 y) k + 1 = d from by omega], (by repeat (first | with_reducible exact Kept.refl _ | with_reducible assumption | with_reducible refine Kept.drew ?_ | with_reducible refine Kept.drewN ?_ _ | with_reducible refine Kept.alloc ?_ _ | (with_reducible refine Kept.setCell ?_ (by first | exact Nat.le_refl _ | omega | (simp; done) | (simp; omega)) _) | (with_reducible refine Kept.trans ?_ (by with_reducible assumption))))⟩
end Go.Proofs.YtdmgnanpjkimlaaDoor

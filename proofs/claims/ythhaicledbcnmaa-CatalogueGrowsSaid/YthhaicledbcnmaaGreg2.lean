/- Contracts: package gregorian, dates. -/
import Derived.Test.YthhaicledbcnmaaGreg
set_option linter.unusedSimpArgs false
set_option linter.unusedVariables false
set_option linter.unusedSectionVars false
namespace Go.Proofs.Ythhaicledbcnmaa
open Go.ChangeShapes Go.WideShapes Go.ChangeAt Go.RowKit
set_option maxHeartbeats 400000

theorem quiet_left {P : Program} {f : FuncId} {args : Array Value} {w : World} {n : Nat} {v : Value}
    (h : Calls P f args (w.drewN n) fun e w' => e = .returned v ∧ w.drewN n = w') : Calls P f args (w.drewN n) fun e w'' => e = .returned v ∧ ∃ m, w'' = w.drewN m :=
  h.mono fun _ _ ⟨he, hm⟩ => ⟨he, n, hm.symm⟩
theorem Valid_yes (y m d : Int) (w : World) (h : OkD 2 y m d) :
    Calls Try.prog 64 #[.agg #[.int .i64 y, .int .i64 m, .int .i64 d]] w fun e w' => e = .returned (.bool true) ∧ Kept w w' := by
  obtain ⟨h1, h2, h3, h4, h5, h6⟩ := h
  have hb := mlen_bounds (lp 2 y) m h3 h4
  have hd : decide (d ≤ mlen (lp 2 y) m) = true := by simp; omega
  go_enter Try.func64, Try.ntmps64
  go_wp2_with fail
  go_quiet ((first | (go_at_call 62; exact quiet_left (inR_yes _ _ h1 h2)) | (go_at_call 54; exact quiet_left (Length_any _ _ _))))
  go_wp2_with fail
  go_ret
  exact ⟨rfl, (by repeat (first | with_reducible exact Kept.refl _ | with_reducible assumption | with_reducible refine Kept.drew ?_ | with_reducible refine Kept.drewN ?_ _ | with_reducible refine Kept.alloc ?_ _ | (with_reducible refine Kept.setCell ?_ (by first | exact Nat.le_refl _ | omega | (simp; done) | (simp; omega)) _) | (with_reducible refine Kept.trans ?_ (by with_reducible assumption))))⟩
theorem Valid_no (y m d : Int) (w : World) (h : ¬ OkD 2 y m d) :
    Calls Try.prog 64 #[.agg #[.int .i64 y, .int .i64 m, .int .i64 d]] w fun e w' => e = .returned (.bool false) ∧ Kept w w' := by
  by_cases h1 : 1 ≤ y ∧ y ≤ 1000000000
  · obtain ⟨h1, h2⟩ := h1
    by_cases h5 : 1 ≤ d
    · have h6 : ¬ d ≤ mlen (lp 2 y) m := by
        intro h6
        refine h ⟨h1, h2, ?_, ?_, h5, h6⟩
        · by_cases g : m < 1
          · rw [mlen_out _ _ (.inl g)] at h6; omega
          · omega
        · by_cases g : 12 < m
          · rw [mlen_out _ _ (.inr g)] at h6; omega
          · omega
      have hd : decide (d ≤ mlen (lp 2 y) m) = false := by simp; omega
      go_enter Try.func64, Try.ntmps64
      go_wp2_with fail
      go_quiet ((first | (go_at_call 62; exact quiet_left (inR_yes _ _ h1 h2)) | (go_at_call 54; exact quiet_left (Length_any _ _ _))))
      go_wp2_with fail
      go_ret
      exact ⟨rfl, (by repeat (first | with_reducible exact Kept.refl _ | with_reducible assumption | with_reducible refine Kept.drew ?_ | with_reducible refine Kept.drewN ?_ _ | with_reducible refine Kept.alloc ?_ _ | (with_reducible refine Kept.setCell ?_ (by first | exact Nat.le_refl _ | omega | (simp; done) | (simp; omega)) _) | (with_reducible refine Kept.trans ?_ (by with_reducible assumption))))⟩
    · have hd : decide (1 ≤ d) = false := by simp; omega
      go_enter Try.func64, Try.ntmps64
      go_wp2_with fail
      go_quiet ((first | (go_at_call 62; exact quiet_left (inR_yes _ _ h1 h2)) | (go_at_call 54; exact quiet_left (Length_any _ _ _))))
      go_wp2_with fail
      go_ret
      exact ⟨rfl, (by repeat (first | with_reducible exact Kept.refl _ | with_reducible assumption | with_reducible refine Kept.drew ?_ | with_reducible refine Kept.drewN ?_ _ | with_reducible refine Kept.alloc ?_ _ | (with_reducible refine Kept.setCell ?_ (by first | exact Nat.le_refl _ | omega | (simp; done) | (simp; omega)) _) | (with_reducible refine Kept.trans ?_ (by with_reducible assumption))))⟩
  · go_enter Try.func64, Try.ntmps64
    go_wp2_with fail
    go_quiet ((first | (go_at_call 62; exact quiet_left (inR_no _ _ (by omega))) | (go_at_call 54; exact quiet_left (Length_any _ _ _))))
    go_wp2_with fail
    go_ret
    exact ⟨rfl, (by repeat (first | with_reducible exact Kept.refl _ | with_reducible assumption | with_reducible refine Kept.drew ?_ | with_reducible refine Kept.drewN ?_ _ | with_reducible refine Kept.alloc ?_ _ | (with_reducible refine Kept.setCell ?_ (by first | exact Nat.le_refl _ | omega | (simp; done) | (simp; omega)) _) | (with_reducible refine Kept.trans ?_ (by with_reducible assumption))))⟩

theorem ToDay_range (y m d : Int) (w : World) (h : y < 1 ∨ 1000000000 < y) :
    Calls Try.prog 61 #[.agg #[.int .i64 y, .int .i64 m, .int .i64 d]] w fun e w' => e = .returned (.tuple #[.int .i64 0, .int .i64 1]) ∧ Kept w w' := by
  go_enter Try.func61, Try.ntmps61
  go_wp2_with (first | (go_at_call 62; refine (inR_no _ _ (by omega)).mono ?_; rintro e w1 ⟨rfl, rfl⟩))
  go_ret2
  exact ⟨rfl, (by repeat (first | with_reducible exact Kept.refl _ | with_reducible assumption | with_reducible refine Kept.drew ?_ | with_reducible refine Kept.drewN ?_ _ | with_reducible refine Kept.alloc ?_ _ | (with_reducible refine Kept.setCell ?_ (by first | exact Nat.le_refl _ | omega | (simp; done) | (simp; omega)) _) | (with_reducible refine Kept.trans ?_ (by with_reducible assumption))))⟩
theorem ToDay_date (y m d : Int) (w : World) (h1 : 1 ≤ y) (h2 : y ≤ 1000000000) (h : ¬ OkD 2 y m d) :
    Calls Try.prog 61 #[.agg #[.int .i64 y, .int .i64 m, .int .i64 d]] w fun e w' => e = .returned (.tuple #[.int .i64 0, .int .i64 2]) ∧ Kept w w' := by
  go_enter Try.func61, Try.ntmps61
  go_wp2_with (first | (go_at_call 62; refine (inR_yes _ _ h1 h2).mono ?_; rintro e w1 ⟨rfl, rfl⟩) | (go_at_call 64; refine (Valid_no _ _ _ _ h).mono ?_; rintro e w1 ⟨rfl, hk1⟩))
  go_ret2
  exact ⟨rfl, (by repeat (first | with_reducible exact Kept.refl _ | with_reducible assumption | with_reducible refine Kept.drew ?_ | with_reducible refine Kept.drewN ?_ _ | with_reducible refine Kept.alloc ?_ _ | (with_reducible refine Kept.setCell ?_ (by first | exact Nat.le_refl _ | omega | (simp; done) | (simp; omega)) _) | (with_reducible refine Kept.trans ?_ (by with_reducible assumption))))⟩
theorem ToDay_ok (y m d : Int) (w : World) (h : OkD 2 y m d) :
    Calls Try.prog 61 #[.agg #[.int .i64 y, .int .i64 m, .int .i64 d]] w fun e w' => e = .returned (.tuple #[.int .i64 (num 2 y m d), .int .i64 0]) ∧ Kept w w' := by
  have hv := fun w => Valid_yes y m d w h
  have HV := Lib.hid hv
  obtain ⟨h1, h2, h3, h4, h5, h6⟩ := h
  have hb := mlen_bounds (lp 2 y) m h3 h4
  obtain ⟨hf1, hf2⟩ := fst_bounds 2 y h1 (by omega)
  have hc := cum_succ (lp 2 y)
  have HC := Lib.hid hc
  clear hv hc
  go_enter Try.func61, Try.ntmps61
  go_wp2_with fail
  (go_at_call 62; refine (inR_yes _ _ h1 h2).mono ?_; rintro e w1 ⟨rfl, rfl⟩)
  go_wp2_with fail
  (go_at_call 64; refine (HV.out _).mono ?_; rintro e w1 ⟨rfl, hk1⟩)
  have hB1_1 := hk1
  obtain ⟨hc1_1, hf1_1⟩ := kept_cells hB1_1
  have hz1_0_1 : w.heap.size < w1.heap.size := by have := hB1_1.size; simp at this; omega
  go_wp2_with fail
  go_quiet ((go_at_call 63; exact quiet_left (first_any _ _ (by omega) (by omega))))
  go_wp2_with fail
  have hk := Kept.drewN hB1_1 nq
  have HK := Lib.hid hk
  obtain ⟨hcX, hfX⟩ := kept_cells hk
  generalize w1.drewN nq = W at *
  clear hk hk1 hB1_1 hc1_1 hf1_1
  go_loop [4, 5] (fun t i => ∃ k : Int, 1 ≤ k ∧ k ≤ m ∧ i = .int .i64 k ∧ t = .int .i64 (fst 2 y + cum (lp 2 y) k + d - 1)) (fun _ i => (m - intOf i).toNat)
  case atStart => exact ⟨1, by omega, by omega, rfl, by rw [cum_1, Int.add_zero]⟩
  case round =>
    obtain ⟨k, hk1, hk2, rfl, rfl⟩ := hrel
    have cb := cum_bounds (lp 2 y) k hk1 (by omega)
    have mb := mlen_bounds (lp 2 y) k hk1 (by omega)
    by_cases hlt : k < m
    · go_wp2_with (go_at_call 54; refine (Length_any _ _ _).mono ?_; rintro e w1 ⟨rfl, rfl⟩)
      go_round
      case rel => exact ⟨k + 1, by omega, by omega, rfl, by rw [HC.out k hk1 (by omega)]; go_num⟩
      case measure => simp [intOf]; omega
    · go_wp2_with (go_at_call 54; refine (Length_any _ _ _).mono ?_; rintro e w1 ⟨rfl, rfl⟩)
      go_ret2
      exact ⟨by rw [show m = k from by omega]; rfl, Kept.trans (Kept.alloc (Kept.refl _) _) HK.out⟩
end Go.Proofs.Ythhaicledbcnmaa

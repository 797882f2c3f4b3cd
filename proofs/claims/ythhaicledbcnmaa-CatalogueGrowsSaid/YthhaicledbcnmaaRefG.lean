/- Contracts: references 02 (Length, Less, Next) and 03. -/
import Derived.Test.YthhaicledbcnmaaRefL
import Derived.Test.YthhaicledbcnmaaRefA
import Derived.Deep.QuietTactic
import Derived.BigQuiet
import Derived.StillTailTactics
import Derived.Deep.RegionWith
set_option linter.unusedSimpArgs false
set_option linter.unusedVariables false
set_option linter.unusedSectionVars false
namespace Go.Proofs.Ythhaicledbcnmaa
open Go.ChangeShapes Go.WideShapes Go.ChangeAt Go.RowKit
set_option maxHeartbeats 800000

@[local go_sem] theorem setCell_drewN (w : World) (n : Nat) (a : Addr) (v : Value) : (w.drewN n).setCell a v = (w.setCell a v).drewN n := rfl
theorem rLeap_any (y : Int) (w : World) (h : -9223372036854775808 ≤ y) (h' : y ≤ 9223372036854775807) :
    Calls Try.prog 34 #[.int .i64 y] w fun e w' => e = .returned (.bool (lp 2 y)) ∧ w = w' := by
  have HL := Lib.hid (show lp 2 y = decide (y % 4 = 0 ∧ (y % 100 ≠ 0 ∨ y % 400 = 0)) from rfl)
  go_enter Try.func34, Try.ntmps34
  go_wp2_with (go_at_call 35; refine (Mod_any _ _ _ (by omega) (by omega) (by omega) (by omega)).mono ?_; rintro e w1 ⟨rfl, rfl⟩)
  all_goals go_ret
  all_goals refine ⟨ret_bool ?_, rfl⟩
  all_goals rw [HL.out, Bool.eq_iff_iff]
  all_goals simp
  all_goals simp only [beq_iff_eq, beq_eq_false_iff_ne, ne_eq] at *
  all_goals omega
theorem rFirst_any (y : Int) (w : World) (h : 1 ≤ y) (h' : y ≤ 1000000001) :
    Calls Try.prog 31 #[.int .i64 y] w fun e w' => e = .returned (.int .i64 (fst 2 y)) ∧ w = w' := by
  have HF := Lib.hid (show fst 2 y = 365 * (y - 1) + (y - 1) / 4 - (y - 1) / 100 + (y - 1) / 400 + 1 from by unfold fst; simp only [show ¬ (2 : Int) = 1 from by decide, if_false]; omega)
  go_enter Try.func31, Try.ntmps31
  go_wp2
  go_ret
  exact ⟨by rw [HF.out]; rfl, rfl⟩
theorem quiet_leftR {P : Program} {f : FuncId} {args : Array Value} {w : World} {n : Nat} {v : Value}
    (h : Calls P f args (w.drewN n) fun e w' => e = .returned v ∧ w.drewN n = w') : Calls P f args (w.drewN n) fun e w'' => e = .returned v ∧ ∃ m, w'' = w.drewN m :=
  h.mono fun _ _ ⟨he, hm⟩ => ⟨he, n, hm.symm⟩

theorem quiet_addR {P : Program} {f : FuncId} {args : Array Value} {w : World} {a n : Nat} {v : Value}
    (h : Calls P f args (w.drewN (a + n)) fun e w' => e = .returned v ∧ w.drewN (a + n) = w') :
    Calls P f args (w.drewN (a + n)) fun e w'' => e = .returned v ∧ ∃ m, w'' = w.drewN (a + m) :=
  h.mono fun _ _ ⟨he, hm⟩ => ⟨he, n, hm.symm⟩
theorem same_of {P : Program} {f : FuncId} {args : Array Value} {w : World} {v : Value}
    (h : Calls P f args w fun e w' => e = .returned v ∧ w = w') : Calls P f args w fun e w' => e = .returned v ∧ w' = w :=
  h.mono fun _ _ ⟨he, hm⟩ => ⟨he, hm.symm⟩
theorem rValid_yes (y m d : Int) (w : World) (h : OkD 2 y m d) :
    Calls Try.prog 33 #[.agg #[.int .i64 y, .int .i64 m, .int .i64 d]] w fun e w' => e = .returned (.bool true) ∧ Kept w w' := by
  obtain ⟨h1, h2, h3, h4, h5, h6⟩ := h
  have hb := mlen_bounds (lp 2 y) m h3 h4
  have hd : decide (d ≤ mlen (lp 2 y) m) = true := by simp; omega
  go_enter Try.func33, Try.ntmps33
  go_wp2_with fail
  go_quiet ((first | (go_at_call 32; exact quiet_leftR (In_yes _ _ h1 h2)) | (go_at_call 34; exact quiet_leftR (rLeap_any _ _ (by omega) (by omega))) | (go_at_call 29; exact quiet_leftR (rLen_any _ _ _))))
  go_wp2_with fail
  go_ret
  exact ⟨rfl, (by repeat (first | with_reducible exact Kept.refl _ | with_reducible assumption | with_reducible refine Kept.drew ?_ | with_reducible refine Kept.drewN ?_ _ | with_reducible refine Kept.alloc ?_ _ | (with_reducible refine Kept.setCell ?_ (by first | exact Nat.le_refl _ | omega | (simp; done) | (simp; omega)) _) | (with_reducible refine Kept.trans ?_ (by with_reducible assumption))))⟩
theorem rValid_no (y m d : Int) (w : World) (h : ¬ OkD 2 y m d) :
    Calls Try.prog 33 #[.agg #[.int .i64 y, .int .i64 m, .int .i64 d]] w fun e w' => e = .returned (.bool false) ∧ Kept w w' := by
  by_cases h1 : 1 ≤ y ∧ y ≤ 1000000000
  · obtain ⟨h1, h2⟩ := h1
    by_cases h5 : 1 ≤ d
    · have h6 : ¬ d ≤ mlen (lp 2 y) m := by
        intro h6
        refine h ⟨h1, h2, ?_, ?_, h5, h6⟩
        · by_cases g : m < 1
          · rw [mlen_out _ _ (.inl g)] at h6; omega
          · omega
        · by_cases g : 12 < m
          · rw [mlen_out _ _ (.inr g)] at h6; omega
          · omega
      have hd : decide (d ≤ mlen (lp 2 y) m) = false := by simp; omega
      go_enter Try.func33, Try.ntmps33
      go_wp2_with fail
      go_quiet ((first | (go_at_call 32; exact quiet_leftR (In_yes _ _ h1 h2)) | (go_at_call 34; exact quiet_leftR (rLeap_any _ _ (by omega) (by omega))) | (go_at_call 29; exact quiet_leftR (rLen_any _ _ _))))
      go_wp2_with fail
      go_ret
      exact ⟨rfl, (by repeat (first | with_reducible exact Kept.refl _ | with_reducible assumption | with_reducible refine Kept.drew ?_ | with_reducible refine Kept.drewN ?_ _ | with_reducible refine Kept.alloc ?_ _ | (with_reducible refine Kept.setCell ?_ (by first | exact Nat.le_refl _ | omega | (simp; done) | (simp; omega)) _) | (with_reducible refine Kept.trans ?_ (by with_reducible assumption))))⟩
    · have hd : decide (1 ≤ d) = false := by simp; omega
      go_enter Try.func33, Try.ntmps33
      go_wp2_with fail
      go_quiet ((first | (go_at_call 32; exact quiet_leftR (In_yes _ _ h1 h2)) | (go_at_call 34; exact quiet_leftR (rLeap_any _ _ (by omega) (by omega))) | (go_at_call 29; exact quiet_leftR (rLen_any _ _ _))))
      go_wp2_with fail
      go_ret
      exact ⟨rfl, (by repeat (first | with_reducible exact Kept.refl _ | with_reducible assumption | with_reducible refine Kept.drew ?_ | with_reducible refine Kept.drewN ?_ _ | with_reducible refine Kept.alloc ?_ _ | (with_reducible refine Kept.setCell ?_ (by first | exact Nat.le_refl _ | omega | (simp; done) | (simp; omega)) _) | (with_reducible refine Kept.trans ?_ (by with_reducible assumption))))⟩
  · go_enter Try.func33, Try.ntmps33
    go_wp2_with fail
    go_quiet ((first | (go_at_call 32; exact quiet_leftR (In_no _ _ (by omega))) | (go_at_call 34; exact quiet_leftR (rLeap_any _ _ (by omega) (by omega))) | (go_at_call 29; exact quiet_leftR (rLen_any _ _ _))))
    go_wp2_with fail
    go_ret
    exact ⟨rfl, (by repeat (first | with_reducible exact Kept.refl _ | with_reducible assumption | with_reducible refine Kept.drew ?_ | with_reducible refine Kept.drewN ?_ _ | with_reducible refine Kept.alloc ?_ _ | (with_reducible refine Kept.setCell ?_ (by first | exact Nat.le_refl _ | omega | (simp; done) | (simp; omega)) _) | (with_reducible refine Kept.trans ?_ (by with_reducible assumption))))⟩

theorem rToDay_range (y m d : Int) (w : World) (h : y < 1 ∨ 1000000000 < y) :
    Calls Try.prog 30 #[.agg #[.int .i64 y, .int .i64 m, .int .i64 d]] w fun e w' => e = .returned (.tuple #[.int .i64 0, .int .i64 1]) ∧ Kept w w' := by
  go_enter Try.func30, Try.ntmps30
  go_wp2_with (first | (go_at_call 32; refine (In_no _ _ (by omega)).mono ?_; rintro e w1 ⟨rfl, rfl⟩))
  go_ret2
  exact ⟨rfl, (by repeat (first | with_reducible exact Kept.refl _ | with_reducible assumption | with_reducible refine Kept.drew ?_ | with_reducible refine Kept.drewN ?_ _ | with_reducible refine Kept.alloc ?_ _ | (with_reducible refine Kept.setCell ?_ (by first | exact Nat.le_refl _ | omega | (simp; done) | (simp; omega)) _) | (with_reducible refine Kept.trans ?_ (by with_reducible assumption))))⟩
theorem rToDay_date (y m d : Int) (w : World) (h1 : 1 ≤ y) (h2 : y ≤ 1000000000) (h : ¬ OkD 2 y m d) :
    Calls Try.prog 30 #[.agg #[.int .i64 y, .int .i64 m, .int .i64 d]] w fun e w' => e = .returned (.tuple #[.int .i64 0, .int .i64 2]) ∧ Kept w w' := by
  go_enter Try.func30, Try.ntmps30
  go_wp2_with (first | (go_at_call 32; refine (In_yes _ _ h1 h2).mono ?_; rintro e w1 ⟨rfl, rfl⟩) | (go_at_call 33; refine (rValid_no _ _ _ _ h).mono ?_; rintro e w1 ⟨rfl, hk1⟩))
  go_ret2
  exact ⟨rfl, (by repeat (first | with_reducible exact Kept.refl _ | with_reducible assumption | with_reducible refine Kept.drew ?_ | with_reducible refine Kept.drewN ?_ _ | with_reducible refine Kept.alloc ?_ _ | (with_reducible refine Kept.setCell ?_ (by first | exact Nat.le_refl _ | omega | (simp; done) | (simp; omega)) _) | (with_reducible refine Kept.trans ?_ (by with_reducible assumption))))⟩
theorem rToDay_ok (y m d : Int) (w : World) (h : OkD 2 y m d) :
    Calls Try.prog 30 #[.agg #[.int .i64 y, .int .i64 m, .int .i64 d]] w fun e w' => e = .returned (.tuple #[.int .i64 (num 2 y m d), .int .i64 0]) ∧ Kept w w' := by
  have hv := fun w => rValid_yes y m d w h
  have HV := Lib.hid hv
  obtain ⟨h1, h2, h3, h4, h5, h6⟩ := h
  have hb := mlen_bounds (lp 2 y) m h3 h4
  obtain ⟨hf1, hf2⟩ := fst_bounds 2 y h1 (by omega)
  have hc := cum_succ (lp 2 y)
  have HC := Lib.hid hc
  clear hv hc
  have HE : Hid (num 2 y m d = fst 2 y + cum (lp 2 y) m + d - 1) := rfl
  go_enter Try.func30, Try.ntmps30
  go_wp2_with fail
  (go_at_call 32; refine (In_yes _ _ h1 h2).mono ?_; rintro e w1 ⟨rfl, rfl⟩)
  go_wp2_with fail
  (go_at_call 33; refine (HV.out _).mono ?_; rintro e w1 ⟨rfl, hk1⟩)
  have hB1_1 := hk1
  obtain ⟨hc1_1, hf1_1⟩ := kept_cells hB1_1
  have hz1_0_1 : w.heap.size < w1.heap.size := by have := hB1_1.size; simp at this; omega
  go_wp2_with fail
  (go_at_call 31; refine (rFirst_any _ _ h1 (by omega)).mono ?_; rintro e w1 ⟨rfl, rfl⟩)
  go_wp2_with fail
  go_loopw [4, 5] (fun t i wr => Kept w1 wr ∧ ∃ k : Int, 1 ≤ k ∧ k ≤ m ∧ i = .int .i64 k ∧ t = .int .i64 (fst 2 y + cum (lp 2 y) k)) (fun _ i _ => (m - intOf i).toNat)
  case atStart => exact ⟨Kept.refl _, 1, by omega, by omega, rfl, by rw [cum_1, Int.add_zero]⟩
  case round =>
    obtain ⟨hK, k, hk1, hk2, rfl, rfl⟩ := hrel
    have hB := Kept.trans hB1_1 hK
    obtain ⟨hcX, hfX⟩ := kept_cells hB
    have cb := cum_bounds (lp 2 y) k hk1 (by omega)
    have mb := mlen_bounds (lp 2 y) k hk1 (by omega)
    by_cases hlt : k < m
    · go_wp2_with fail
      (go_at_call 34; refine (rLeap_any _ _ (by omega) (by omega)).mono ?_; rintro e w1 ⟨rfl, rfl⟩)
      go_wp2_with (go_at_call 29; refine (rLen_any _ _ _).mono ?_; rintro e w1 ⟨rfl, rfl⟩)
      go_roundw
      case rel => exact ⟨(by repeat (first | with_reducible exact Kept.refl _ | with_reducible assumption | with_reducible refine Kept.drew ?_ | with_reducible refine Kept.drewN ?_ _ | with_reducible refine Kept.alloc ?_ _ | (with_reducible refine Kept.setCell ?_ (by first | exact Nat.le_refl _ | omega | (simp; done) | (simp; omega)) _) | (with_reducible refine Kept.trans ?_ (by with_reducible assumption)))), k + 1, by omega, by omega, rfl, by rw [HC.out k hk1 (by omega)]; go_num⟩
      case measure => simp [intOf]; omega
    · have hk : k = m := by omega
      subst hk
      go_wp2_with fail
      go_ret2
      exact ⟨by rw [HE.out]; rfl, (by repeat (first | with_reducible exact Kept.refl _ | with_reducible assumption | with_reducible refine Kept.drew ?_ | with_reducible refine Kept.drewN ?_ _ | with_reducible refine Kept.alloc ?_ _ | (with_reducible refine Kept.setCell ?_ (by first | exact Nat.le_refl _ | omega | (simp; done) | (simp; omega)) _) | (with_reducible refine Kept.trans ?_ (by with_reducible assumption))))⟩

/-- A whole number in memory. -/
def cellInt (w : World) (b o : Nat) : Int := match w.cell? ⟨b, o, none⟩ with
  | some v => intOf v
  | none => 0
/-- The search: the year lies between the bounds. -/
def Sought (n lo hi : Int) : Prop := 1 ≤ lo ∧ lo ≤ hi ∧ hi ≤ 1000000000 ∧ fst 2 lo ≤ n ∧ n < fst 2 (hi + 1)

end Go.Proofs.Ythhaicledbcnmaa

/- Contracts: references 02 (Length, Less, Next) and 03. -/
import Derived.Test.YtekgaihdfnhkpaaRefL
import Derived.Test.YtekgaihdfnhkpaaRefA
import Derived.Deep.QuietTactic
import Derived.BigQuiet
import Derived.StillTailTactics
import Derived.Deep.RegionWith
set_option linter.unusedSimpArgs false
set_option linter.unusedVariables false
set_option linter.unusedSectionVars false
namespace Go.Proofs.Ytekgaihdfnhkpaa
open Go.ChangeShapes Go.WideShapes Go.ChangeAt Go.RowKit
set_option maxHeartbeats 800000

@[local go_sem] theorem setCell_drewN (w : World) (n : Nat) (a : Addr) (v : Value) : (w.drewN n).setCell a v = (w.setCell a v).drewN n := rfl
theorem rLeap_any (y : Int) (w : World) (h : -9223372036854775808 ≤ y) (h' : y ≤ 9223372036854775807) :
    Calls Try.prog 51 #[.int .i64 y] w fun e w' => e = .returned (.bool (lp 2 y)) ∧ w = w' := by
  have HL := Lib.hid (show lp 2 y = decide (y % 4 = 0 ∧ (y % 100 ≠ 0 ∨ y % 400 = 0)) from rfl)
  go_enter Try.func51, Try.ntmps51
  go_wp2_with (go_at_call 55; refine (Mod_any _ _ _ (by omega) (by omega) (by omega) (by omega)).mono ?_; rintro e w1 ⟨rfl, rfl⟩)
  all_goals go_ret
  all_goals refine ⟨ret_bool ?_, rfl⟩
  all_goals rw [HL.out, Bool.eq_iff_iff]
  all_goals simp
  all_goals simp only [beq_iff_eq, beq_eq_false_iff_ne, ne_eq] at *
  all_goals omega
theorem rFirst_any (y : Int) (w : World) (h : 1 ≤ y) (h' : y ≤ 1000000001) :
    Calls Try.prog 50 #[.int .i64 y] w fun e w' => e = .returned (.int .i64 (fst 2 y)) ∧ w = w' := by
  have HF := Lib.hid (show fst 2 y = 365 * (y - 1) + (y - 1) / 4 - (y - 1) / 100 + (y - 1) / 400 + 1 from by unfold fst; simp only [show ¬ (2 : Int) = 1 from by decide, if_false]; omega)
  go_enter Try.func50, Try.ntmps50
  go_wp2
  go_ret
  exact ⟨by rw [HF.out]; rfl, rfl⟩
theorem quiet_leftR {P : Program} {f : FuncId} {args : Array Value} {w : World} {n : Nat} {v : Value}
    (h : Calls P f args (w.drewN n) fun e w' => e = .returned v ∧ w.drewN n = w') : Calls P f args (w.drewN n) fun e w'' => e = .returned v ∧ ∃ m, w'' = w.drewN m :=
  h.mono fun _ _ ⟨he, hm⟩ => ⟨he, n, hm.symm⟩

theorem quiet_addR {P : Program} {f : FuncId} {args : Array Value} {w : World} {a n : Nat} {v : Value}
    (h : Calls P f args (w.drewN (a + n)) fun e w' => e = .returned v ∧ w.drewN (a + n) = w') :
    Calls P f args (w.drewN (a + n)) fun e w'' => e = .returned v ∧ ∃ m, w'' = w.drewN (a + m) :=
  h.mono fun _ _ ⟨he, hm⟩ => ⟨he, n, hm.symm⟩
theorem same_of {P : Program} {f : FuncId} {args : Array Value} {w : World} {v : Value}
    (h : Calls P f args w fun e w' => e = .returned v ∧ w = w') : Calls P f args w fun e w' => e = .returned v ∧ w' = w :=
  h.mono fun _ _ ⟨he, hm⟩ => ⟨he, hm.symm⟩
theorem rValid_yes (y m d : Int) (w : World) (h : OkD 2 y m d) :
    Calls Try.prog 60 #[.agg #[.int .i64 y, .int .i64 m, .int .i64 d]] w fun e w' => e = .returned (.bool true) ∧ Kept w w' := by
  obtain ⟨h1, h2, h3, h4, h5, h6⟩ := h
  have hb := mlen_bounds (lp 2 y) m h3 h4
  have hd : decide (d ≤ mlen (lp 2 y) m) = true := by simp; omega
  go_enter Try.func60, Try.ntmps60
  go_wp2_with fail
  go_quiet ((first | (go_at_call 12; exact quiet_leftR (In_yes _ _ h1 h2)) | (go_at_call 51; exact quiet_leftR (rLeap_any _ _ (by omega) (by omega))) | (go_at_call 48; exact quiet_leftR (rLen_any _ _ _))))
  go_wp2_with fail
  go_ret
  exact ⟨rfl, (by repeat (first | with_reducible exact Kept.refl _ | with_reducible assumption | with_reducible refine Kept.drew ?_ | with_reducible refine Kept.drewN ?_ _ | with_reducible refine Kept.alloc ?_ _ | (with_reducible refine Kept.setCell ?_ (by first | exact Nat.le_refl _ | omega | (simp; done) | (simp; omega)) _) | (with_reducible refine Kept.trans ?_ (by with_reducible assumption))))⟩
theorem rValid_no (y m d : Int) (w : World) (h : ¬ OkD 2 y m d) :
    Calls Try.prog 60 #[.agg #[.int .i64 y, .int .i64 m, .int .i64 d]] w fun e w' => e = .returned (.bool false) ∧ Kept w w' := by
  by_cases h1 : 1 ≤ y ∧ y ≤ 1000000000
  · obtain ⟨h1, h2⟩ := h1
    by_cases h5 : 1 ≤ d
    · have h6 : ¬ d ≤ mlen (lp 2 y) m := by
        intro h6
        refine h ⟨h1, h2, ?_, ?_, h5, h6⟩
        · by_cases g : m < 1
          · rw [mlen_out _ _ (.inl g)] at h6; omega
          · omega
        · by_cases g : 12 < m
          · rw [mlen_out _ _ (.inr g)] at h6; omega
          · omega
      have hd : decide (d ≤ mlen (lp 2 y) m) = false := by simp; omega
      go_enter Try.func60, Try.ntmps60
      go_wp2_with fail
      go_quiet ((first | (go_at_call 12; exact quiet_leftR (In_yes _ _ h1 h2)) | (go_at_call 51; exact quiet_leftR (rLeap_any _ _ (by omega) (by omega))) | (go_at_call 48; exact quiet_leftR (rLen_any _ _ _))))
      go_wp2_with fail
      go_ret
      exact ⟨rfl, (by repeat (first | with_reducible exact Kept.refl _ | with_reducible assumption | with_reducible refine Kept.drew ?_ | with_reducible refine Kept.drewN ?_ _ | with_reducible refine Kept.alloc ?_ _ | (with_reducible refine Kept.setCell ?_ (by first | exact Nat.le_refl _ | omega | (simp; done) | (simp; omega)) _) | (with_reducible refine Kept.trans ?_ (by with_reducible assumption))))⟩
    · have hd : decide (1 ≤ d) = false := by simp; omega
      go_enter Try.func60, Try.ntmps60
      go_wp2_with fail
      go_quiet ((first | (go_at_call 12; exact quiet_leftR (In_yes _ _ h1 h2)) | (go_at_call 51; exact quiet_leftR (rLeap_any _ _ (by omega) (by omega))) | (go_at_call 48; exact quiet_leftR (rLen_any _ _ _))))
      go_wp2_with fail
      go_ret
      exact ⟨rfl, (by repeat (first | with_reducible exact Kept.refl _ | with_reducible assumption | with_reducible refine Kept.drew ?_ | with_reducible refine Kept.drewN ?_ _ | with_reducible refine Kept.alloc ?_ _ | (with_reducible refine Kept.setCell ?_ (by first | exact Nat.le_refl _ | omega | (simp; done) | (simp; omega)) _) | (with_reducible refine Kept.trans ?_ (by with_reducible assumption))))⟩
  · go_enter Try.func60, Try.ntmps60
    go_wp2_with fail
    go_quiet ((first | (go_at_call 12; exact quiet_leftR (In_no _ _ (by omega))) | (go_at_call 51; exact quiet_leftR (rLeap_any _ _ (by omega) (by omega))) | (go_at_call 48; exact quiet_leftR (rLen_any _ _ _))))
    go_wp2_with fail
    go_ret
    exact ⟨rfl, (by repeat (first | with_reducible exact Kept.refl _ | with_reducible assumption | with_reducible refine Kept.drew ?_ | with_reducible refine Kept.drewN ?_ _ | with_reducible refine Kept.alloc ?_ _ | (with_reducible refine Kept.setCell ?_ (by first | exact Nat.le_refl _ | omega | (simp; done) | (simp; omega)) _) | (with_reducible refine Kept.trans ?_ (by with_reducible assumption))))⟩

theorem rToDay_range (y m d : Int) (w : World) (h : y < 1 ∨ 1000000000 < y) :
    Calls Try.prog 53 #[.agg #[.int .i64 y, .int .i64 m, .int .i64 d]] w fun e w' => e = .returned (.tuple #[.int .i64 0, .int .i64 1]) ∧ Kept w w' := by
  go_enter Try.func53, Try.ntmps53
  go_wp2_with (first | (go_at_call 12; refine (In_no _ _ (by omega)).mono ?_; rintro e w1 ⟨rfl, rfl⟩))
  go_ret2
  exact ⟨rfl, (by repeat (first | with_reducible exact Kept.refl _ | with_reducible assumption | with_reducible refine Kept.drew ?_ | with_reducible refine Kept.drewN ?_ _ | with_reducible refine Kept.alloc ?_ _ | (with_reducible refine Kept.setCell ?_ (by first | exact Nat.le_refl _ | omega | (simp; done) | (simp; omega)) _) | (with_reducible refine Kept.trans ?_ (by with_reducible assumption))))⟩
theorem rToDay_date (y m d : Int) (w : World) (h1 : 1 ≤ y) (h2 : y ≤ 1000000000) (h : ¬ OkD 2 y m d) :
    Calls Try.prog 53 #[.agg #[.int .i64 y, .int .i64 m, .int .i64 d]] w fun e w' => e = .returned (.tuple #[.int .i64 0, .int .i64 2]) ∧ Kept w w' := by
  go_enter Try.func53, Try.ntmps53
  go_wp2_with (first | (go_at_call 12; refine (In_yes _ _ h1 h2).mono ?_; rintro e w1 ⟨rfl, rfl⟩) | (go_at_call 60; refine (rValid_no _ _ _ _ h).mono ?_; rintro e w1 ⟨rfl, hk1⟩))
  go_ret2
  exact ⟨rfl, (by repeat (first | with_reducible exact Kept.refl _ | with_reducible assumption | with_reducible refine Kept.drew ?_ | with_reducible refine Kept.drewN ?_ _ | with_reducible refine Kept.alloc ?_ _ | (with_reducible refine Kept.setCell ?_ (by first | exact Nat.le_refl _ | omega | (simp; done) | (simp; omega)) _) | (with_reducible refine Kept.trans ?_ (by with_reducible assumption))))⟩
theorem rToDay_ok (y m d : Int) (w : World) (h : OkD 2 y m d) :
    Calls Try.prog 53 #[.agg #[.int .i64 y, .int .i64 m, .int .i64 d]] w fun e w' => e = .returned (.tuple #[.int .i64 (num 2 y m d), .int .i64 0]) ∧ Kept w w' := by
  have hv := fun w => rValid_yes y m d w h
  have HV := Lib.hid hv
  obtain ⟨h1, h2, h3, h4, h5, h6⟩ := h
  have hb := mlen_bounds (lp 2 y) m h3 h4
  obtain ⟨hf1, hf2⟩ := fst_bounds 2 y h1 (by omega)
  have hc := cum_succ (lp 2 y)
  have HC := Lib.hid hc
  clear hv hc
  have HE : Hid (num 2 y m d = fst 2 y + cum (lp 2 y) m + d - 1) := rfl
  go_enter Try.func53, Try.ntmps53
  go_wp2_with fail
  (go_at_call 12; refine (In_yes _ _ h1 h2).mono ?_; rintro e w1 ⟨rfl, rfl⟩)
  go_wp2_with fail
  (go_at_call 60; refine (HV.out _).mono ?_; rintro e w1 ⟨rfl, hk1⟩)
  have hB1_1 := hk1
  obtain ⟨hc1_1, hf1_1⟩ := kept_cells hB1_1
  have hz1_0_1 : w.heap.size < w1.heap.size := by have := hB1_1.size; simp at this; omega
  go_wp2_with fail
  (go_at_call 50; refine (rFirst_any _ _ h1 (by omega)).mono ?_; rintro e w1 ⟨rfl, rfl⟩)
  go_wp2_with fail
  go_loopw [4, 5] (fun t i wr => Kept w1 wr ∧ ∃ k : Int, 1 ≤ k ∧ k ≤ m ∧ i = .int .i64 k ∧ t = .int .i64 (fst 2 y + cum (lp 2 y) k)) (fun _ i _ => (m - intOf i).toNat)
  case atStart => exact ⟨Kept.refl _, 1, by omega, by omega, rfl, by rw [cum_1, Int.add_zero]⟩
  case round =>
    obtain ⟨hK, k, hk1, hk2, rfl, rfl⟩ := hrel
    have hB := Kept.trans hB1_1 hK
    obtain ⟨hcX, hfX⟩ := kept_cells hB
    have cb := cum_bounds (lp 2 y) k hk1 (by omega)
    have mb := mlen_bounds (lp 2 y) k hk1 (by omega)
    by_cases hlt : k < m
    · go_wp2_with fail
      (go_at_call 51; refine (rLeap_any _ _ (by omega) (by omega)).mono ?_; rintro e w1 ⟨rfl, rfl⟩)
      go_wp2_with (go_at_call 48; refine (rLen_any _ _ _).mono ?_; rintro e w1 ⟨rfl, rfl⟩)
      go_roundw
      case rel => exact ⟨(by repeat (first | with_reducible exact Kept.refl _ | with_reducible assumption | with_reducible refine Kept.drew ?_ | with_reducible refine Kept.drewN ?_ _ | with_reducible refine Kept.alloc ?_ _ | (with_reducible refine Kept.setCell ?_ (by first | exact Nat.le_refl _ | omega | (simp; done) | (simp; omega)) _) | (with_reducible refine Kept.trans ?_ (by with_reducible assumption)))), k + 1, by omega, by omega, rfl, by rw [HC.out k hk1 (by omega)]; go_num⟩
      case measure => simp [intOf]; omega
    · have hk : k = m := by omega
      subst hk
      go_wp2_with fail
      go_ret2
      exact ⟨by rw [HE.out]; rfl, (by repeat (first | with_reducible exact Kept.refl _ | with_reducible assumption | with_reducible refine Kept.drew ?_ | with_reducible refine Kept.drewN ?_ _ | with_reducible refine Kept.alloc ?_ _ | (with_reducible refine Kept.setCell ?_ (by first | exact Nat.le_refl _ | omega | (simp; done) | (simp; omega)) _) | (with_reducible refine Kept.trans ?_ (by with_reducible assumption))))⟩

theorem rFromDay_no (n : Int) (w : World) (h : n < 1 ∨ 365242500001 ≤ n) :
    Calls Try.prog 39 #[.int .i64 n] w fun e w' => e = .returned (.tuple #[.agg #[.int .i64 0, .int .i64 0, .int .i64 0], .int .i64 1]) ∧ Kept w w' := by
  have F2 := fun w => rFirst_any 1000000001 w (by omega) (by omega)
  rw [fst_top, if_neg (by decide)] at F2
  have K2 := Lib.hid F2
  clear F2
  rcases h with h | h
  · go_enter Try.func39, Try.ntmps39
    go_wp2_with (go_at_call 50; (with_reducible refine (K2.out _).mono ?_); rintro e w1 ⟨rfl, rfl⟩)
    exact bodyPost_ret (v := .tuple #[.agg #[.int .i64 0, .int .i64 0, .int .i64 0], .int .i64 1]) (by simp [results, Try.results39, go_sem, *]) rfl ⟨rfl, (by repeat (first | with_reducible exact Kept.refl _ | with_reducible assumption | with_reducible refine Kept.drew ?_ | with_reducible refine Kept.drewN ?_ _ | with_reducible refine Kept.alloc ?_ _ | (with_reducible refine Kept.setCell ?_ (by first | exact Nat.le_refl _ | omega | (simp; done) | (simp; omega)) _) | (with_reducible refine Kept.trans ?_ (by with_reducible assumption))))⟩
  · have h' : 1 ≤ n := by omega
    go_enter Try.func39, Try.ntmps39
    go_wp2_with (go_at_call 50; (with_reducible refine (K2.out _).mono ?_); rintro e w1 ⟨rfl, rfl⟩)
    exact bodyPost_ret (v := .tuple #[.agg #[.int .i64 0, .int .i64 0, .int .i64 0], .int .i64 1]) (by simp [results, Try.results39, go_sem, *]) rfl ⟨rfl, (by repeat (first | with_reducible exact Kept.refl _ | with_reducible assumption | with_reducible refine Kept.drew ?_ | with_reducible refine Kept.drewN ?_ _ | with_reducible refine Kept.alloc ?_ _ | (with_reducible refine Kept.setCell ?_ (by first | exact Nat.le_refl _ | omega | (simp; done) | (simp; omega)) _) | (with_reducible refine Kept.trans ?_ (by with_reducible assumption))))⟩

/-- A whole number in memory. -/
def cellInt (w : World) (b o : Nat) : Int := match w.cell? ⟨b, o, none⟩ with
  | some v => intOf v
  | none => 0
/-- The search: the year lies between the bounds. -/
def Sought (n lo hi : Int) : Prop := 1 ≤ lo ∧ lo ≤ hi ∧ hi ≤ 1000000000 ∧ fst 2 lo ≤ n ∧ n < fst 2 (hi + 1)

set_option maxRecDepth 100000 in
theorem rFromDay_ok (n y m d : Int) (w : World) (h : OkD 2 y m d) (e : num 2 y m d = n) :
    Calls Try.prog 39 #[.int .i64 n] w fun e w' => e = .returned (.tuple #[.agg #[.int .i64 y, .int .i64 m, .int .i64 d], .int .i64 0]) ∧ Kept w w' := by
  have F2 := fun w => rFirst_any 1000000001 w (by omega) (by omega)
  rw [fst_top, if_neg (by decide)] at F2
  have K2 := Lib.hid F2
  clear F2
  have hy := num_year 2 y m d h
  have hn := num_bounds 2 y m d h
  rw [fst_one, fst_top, if_neg (by decide), if_neg (by decide), e] at hn
  rw [e] at hy
  have HU := Lib.hid (fun z => year_unique 2 n z y)
  have HY := Lib.hid hy
  obtain ⟨hn1, hn2⟩ := hn
  obtain ⟨h1, h2, h3, h4, h5, h6⟩ := h
  have KC := Lib.hid (cum_succ (lp 2 y))
  have KM := Lib.hid (cum_mono (lp 2 y))
  obtain ⟨hf1, hf2⟩ := fst_bounds 2 y h1 (by omega)
  have hb := mlen_bounds (lp 2 y) m h3 h4
  have hcm := cum_bounds (lp 2 y) m h3 (by omega)
  have HE : Hid (n = fst 2 y + cum (lp 2 y) m + d - 1) := e.symm
  have hS : Sought n 1 1000000000 := ⟨by omega, by omega, by omega, by rw [fst_one, if_neg (by decide)]; omega, by rw [show (1000000000 : Int) + 1 = 1000000001 from rfl, fst_top, if_neg (by decide)]; omega⟩
  have HS := Lib.hid hS
  clear e hy hS
  go_enter Try.func39, Try.ntmps39
  go_wp2_with (go_at_call 50; (with_reducible refine (K2.out _).mono ?_); rintro e w1 ⟨rfl, rfl⟩)
  go_loop [4, 5, 6] (fun lo hi _ => ∃ a b : Int, Sought n a b ∧ lo = .int .i64 a ∧ hi = .int .i64 b) (fun lo hi _ => (intOf hi - intOf lo).toNat)
  case atStart => exact ⟨_, _, HS.out, rfl, rfl⟩
  case round =>
    obtain ⟨a, b, hS, rfl, rfl⟩ := hrel
    clear HS
    have HS := Lib.hid hS
    obtain ⟨s1, s2, s3, s4, s5⟩ := hS
    clear s4 s5
    by_cases hlt : a < b
    · by_cases hmid : fst 2 ((a + b + 1) / 2) ≤ n
      · go_wp2_with (go_at_call 50; refine (rFirst_any _ _ (by omega) (by omega)).mono ?_; rintro e w1 ⟨rfl, rfl⟩)
        go_round
        case rel => exact ⟨_, _, ⟨by omega, by omega, by omega, hmid, HS.out.2.2.2.2⟩, rfl, rfl⟩
        case measure => simp [intOf]; omega
      · go_wp2_with (go_at_call 50; refine (rFirst_any _ _ (by omega) (by omega)).mono ?_; rintro e w1 ⟨rfl, rfl⟩)
        go_round
        case rel => exact ⟨_, _, ⟨by omega, by omega, by omega, HS.out.2.2.2.1, by rw [Int.sub_add_cancel]; omega⟩, rfl, rfl⟩
        case measure => simp [intOf]; omega
    · obtain rfl : a = b := by omega
      obtain rfl : a = y := HU.out a HS.out.2.2.2.1 HS.out.2.2.2.2 HY.out.1 HY.out.2
      rw [HE.out, show fst 2 a + cum (lp 2 a) m + d - 1 = fst 2 a + (cum (lp 2 a) m + d - 1) from by omega]
      clear HY HU hlt s1 s2 s3
      go_wp2_with (go_at_call 50; refine (rFirst_any _ _ (by omega) (by omega)).mono ?_; rintro e w1 ⟨rfl, rfl⟩)
      go_loopw [39] (fun _ wr => ∃ (k : Int) (nq : Nat), 1 ≤ k ∧ k ≤ m ∧ wr = ((w.alloc (.cells #[.int .i64 0, .int .i64 0, .int .i64 0] 35)).alloc (.cells #[.int .i64 a, .int .i64 k, .int .i64 (cum (lp 2 a) m + d - cum (lp 2 a) k)] 35)).drewN nq) (fun _ wr => (m - cellInt wr (w.heap.size + 1) 1).toNat)
      case atStart => exact ⟨1, 0, by omega, by omega, by rw [cum_1, World.drewN_zero, show fst 2 a + (cum (lp 2 a) m + d - 1) - fst 2 a + 1 = cum (lp 2 a) m + d - 0 from by omega]⟩
      case round =>
        obtain ⟨k, nq, hk1, hk2, rfl⟩ := hrel
        have cb := cum_bounds (lp 2 a) k hk1 (by omega)
        have mb := mlen_bounds (lp 2 a) k hk1 (by omega)
        by_cases hlt : k < m
        · have mm := KM.out k m hk1 hlt (by omega)
          have KQ := Lib.hid (KC.out k hk1 (by omega))
          have hgt : mlen (lp 2 a) k < cum (lp 2 a) m + d - cum (lp 2 a) k := by omega
          go_wp2_with fail
          go_quiet ((first | (go_at_call 51; exact quiet_addR (rLeap_any _ _ (by omega) (by omega))) | (go_at_call 48; exact quiet_addR (rLen_any _ _ _))))
          go_wp2_with fail
          refine wp_region_still_tail 9 (by kernel_rfl) (by kernel_rfl) ?_
          change wpStill _ _ (World.drew _) (fun a' => wpList _ _ _ _ a' (World.drew _)) _ _
          simp only [List.take_succ_cons, List.take_zero, List.drop_succ_cons, List.drop_zero]
          repeat (first | still_step | still_call (same_of (rLeap_any a _ (by omega) (by omega))) | still_call (same_of (rLen_any _ _ _)))
          refine wpStill_nil ?_
          go_wp2_with fail
          go_roundw
          case rel => exact ⟨k + 1, _, by omega, by omega, by rw [KQ.out, ← Int.sub_sub]⟩
          case measure => simp [cellInt, intOf]; omega
        · obtain rfl : k = m := by omega
          go_wp2_with fail
          go_quiet ((first | (go_at_call 51; exact quiet_addR (rLeap_any _ _ (by omega) (by omega))) | (go_at_call 48; exact quiet_addR (rLen_any _ _ _))))
          go_wp2_with fail
          exact bodyPost_ret (v := .tuple #[.agg #[.int .i64 a, .int .i64 k, .int .i64 (cum (lp 2 a) k + d - cum (lp 2 a) k)], .int .i64 0]) (by simp [results, Try.results39, go_sem, *]) rfl ⟨by rw [show cum (lp 2 a) k + d - cum (lp 2 a) k = d from by omega], (by repeat (first | with_reducible exact Kept.refl _ | with_reducible assumption | with_reducible refine Kept.drew ?_ | with_reducible refine Kept.drewN ?_ _ | with_reducible refine Kept.alloc ?_ _ | (with_reducible refine Kept.setCell ?_ (by first | exact Nat.le_refl _ | omega | (simp; done) | (simp; omega)) _) | (with_reducible refine Kept.trans ?_ (by with_reducible assumption))))⟩
end Go.Proofs.Ytekgaihdfnhkpaa

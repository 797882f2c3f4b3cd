/- Contracts and plain lemmas: RefG, RefJ, Civ0. -/
import Derived.Test.YtblaphkaklocfaaGreatDoorRows
import Derived.Test.YtblaphkaklocfaaGreatDoorG01
import Derived.Deep.QuietTactic
import Derived.BigQuiet
import Derived.StillTailTactics
import Derived.Deep.RegionWith
set_option linter.unusedSimpArgs false
set_option linter.unusedVariables false
set_option linter.unusedSectionVars false
/- Contracts: references 02 (Length, Less, Next) and 03. -/
namespace Go.Proofs.YtblaphkaklocfaaGreatDoor
open Go.ChangeShapes Go.WideShapes Go.ChangeAt Go.RowKit
set_option maxHeartbeats 800000

@[local go_sem] theorem setCell_drewN (w : World) (n : Nat) (a : Addr) (v : Value) : (w.drewN n).setCell a v = (w.setCell a v).drewN n := rfl
theorem rLeap_any (y : Int) (w : World) (h : -9223372036854775808 ≤ y) (h' : y ≤ 9223372036854775807) :
    Calls Tryz.prog 50 #[.int .i64 y] w fun e w' => e = .returned (.bool (lp 2 y)) ∧ w = w' := by
  have HL := Lib.hid (show lp 2 y = decide (y % 4 = 0 ∧ (y % 100 ≠ 0 ∨ y % 400 = 0)) from rfl)
  go_enter Tryz.func50, Tryz.ntmps50
  go_wp2_with (go_at_call 51; refine (Mod_any _ _ _ (by omega) (by omega) (by omega) (by omega)).mono ?_; rintro e w1 ⟨rfl, rfl⟩)
  all_goals go_ret
  all_goals refine ⟨ret_bool ?_, rfl⟩
  all_goals rw [HL.out, Bool.eq_iff_iff]
  all_goals simp
  all_goals simp only [beq_iff_eq, beq_eq_false_iff_ne, ne_eq] at *
  all_goals omega
theorem rFirst_any (y : Int) (w : World) (h : 1 ≤ y) (h' : y ≤ 1000000001) :
    Calls Tryz.prog 20 #[.int .i64 y] w fun e w' => e = .returned (.int .i64 (fst 2 y)) ∧ w = w' := by
  have HF := Lib.hid (show fst 2 y = 365 * (y - 1) + (y - 1) / 4 - (y - 1) / 100 + (y - 1) / 400 + 1 from by unfold fst; simp only [show ¬ (2 : Int) = 1 from by decide, if_false]; omega)
  go_enter Tryz.func20, Tryz.ntmps20
  go_wp2
  go_ret
  exact ⟨by rw [HF.out]; rfl, rfl⟩
theorem quiet_leftR {P : Program} {f : FuncId} {args : Array Value} {w : World} {n : Nat} {v : Value}
    (h : Calls P f args (w.drewN n) fun e w' => e = .returned v ∧ w.drewN n = w') : Calls P f args (w.drewN n) fun e w'' => e = .returned v ∧ ∃ m, w'' = w.drewN m :=
  h.mono fun _ _ ⟨he, hm⟩ => ⟨he, n, hm.symm⟩

theorem quiet_addR {P : Program} {f : FuncId} {args : Array Value} {w : World} {a n : Nat} {v : Value}
    (h : Calls P f args (w.drewN (a + n)) fun e w' => e = .returned v ∧ w.drewN (a + n) = w') :
    Calls P f args (w.drewN (a + n)) fun e w'' => e = .returned v ∧ ∃ m, w'' = w.drewN (a + m) :=
  h.mono fun _ _ ⟨he, hm⟩ => ⟨he, n, hm.symm⟩
theorem same_of {P : Program} {f : FuncId} {args : Array Value} {w : World} {v : Value}
    (h : Calls P f args w fun e w' => e = .returned v ∧ w = w') : Calls P f args w fun e w' => e = .returned v ∧ w' = w :=
  h.mono fun _ _ ⟨he, hm⟩ => ⟨he, hm.symm⟩
theorem rValid_yes (y m d : Int) (w : World) (h : OkD 2 y m d) :
    Calls Tryz.prog 48 #[.agg #[.int .i64 y, .int .i64 m, .int .i64 d]] w fun e w' => e = .returned (.bool true) ∧ Kept w w' := by
  obtain ⟨h1, h2, h3, h4, h5, h6⟩ := h
  have hb := mlen_bounds (lp 2 y) m h3 h4
  have hd : decide (d ≤ mlen (lp 2 y) m) = true := by simp; omega
  go_enter Tryz.func48, Tryz.ntmps48
  go_wp2_with fail
  go_quiet ((first | (go_at_call 34; exact quiet_leftR (In_yes _ _ h1 h2)) | (go_at_call 50; exact quiet_leftR (rLeap_any _ _ (by omega) (by omega))) | (go_at_call 49; exact quiet_leftR (rLen_any _ _ _))))
  go_wp2_with fail
  go_ret
  exact ⟨rfl, (by repeat (first | with_reducible exact Kept.refl _ | with_reducible assumption | with_reducible refine Kept.drew ?_ | with_reducible refine Kept.drewN ?_ _ | with_reducible refine Kept.alloc ?_ _ | (with_reducible refine Kept.setCell ?_ (by first | exact Nat.le_refl _ | omega | (simp; done) | (simp; omega)) _) | (with_reducible refine Kept.trans ?_ (by with_reducible assumption))))⟩
theorem rValid_no (y m d : Int) (w : World) (h : ¬ OkD 2 y m d) :
    Calls Tryz.prog 48 #[.agg #[.int .i64 y, .int .i64 m, .int .i64 d]] w fun e w' => e = .returned (.bool false) ∧ Kept w w' := by
  by_cases h1 : 1 ≤ y ∧ y ≤ 1000000000
  · obtain ⟨h1, h2⟩ := h1
    by_cases h5 : 1 ≤ d
    · have h6 : ¬ d ≤ mlen (lp 2 y) m := by
        intro h6
        refine h ⟨h1, h2, ?_, ?_, h5, h6⟩
        · by_cases g : m < 1
          · rw [mlen_out _ _ (.inl g)] at h6; omega
          · omega
        · by_cases g : 12 < m
          · rw [mlen_out _ _ (.inr g)] at h6; omega
          · omega
      have hd : decide (d ≤ mlen (lp 2 y) m) = false := by simp; omega
      go_enter Tryz.func48, Tryz.ntmps48
      go_wp2_with fail
      go_quiet ((first | (go_at_call 34; exact quiet_leftR (In_yes _ _ h1 h2)) | (go_at_call 50; exact quiet_leftR (rLeap_any _ _ (by omega) (by omega))) | (go_at_call 49; exact quiet_leftR (rLen_any _ _ _))))
      go_wp2_with fail
      go_ret
      exact ⟨rfl, (by repeat (first | with_reducible exact Kept.refl _ | with_reducible assumption | with_reducible refine Kept.drew ?_ | with_reducible refine Kept.drewN ?_ _ | with_reducible refine Kept.alloc ?_ _ | (with_reducible refine Kept.setCell ?_ (by first | exact Nat.le_refl _ | omega | (simp; done) | (simp; omega)) _) | (with_reducible refine Kept.trans ?_ (by with_reducible assumption))))⟩
    · have hd : decide (1 ≤ d) = false := by simp; omega
      go_enter Tryz.func48, Tryz.ntmps48
      go_wp2_with fail
      go_quiet ((first | (go_at_call 34; exact quiet_leftR (In_yes _ _ h1 h2)) | (go_at_call 50; exact quiet_leftR (rLeap_any _ _ (by omega) (by omega))) | (go_at_call 49; exact quiet_leftR (rLen_any _ _ _))))
      go_wp2_with fail
      go_ret
      exact ⟨rfl, (by repeat (first | with_reducible exact Kept.refl _ | with_reducible assumption | with_reducible refine Kept.drew ?_ | with_reducible refine Kept.drewN ?_ _ | with_reducible refine Kept.alloc ?_ _ | (with_reducible refine Kept.setCell ?_ (by first | exact Nat.le_refl _ | omega | (simp; done) | (simp; omega)) _) | (with_reducible refine Kept.trans ?_ (by with_reducible assumption))))⟩
  · go_enter Tryz.func48, Tryz.ntmps48
    go_wp2_with fail
    go_quiet ((first | (go_at_call 34; exact quiet_leftR (In_no _ _ (by omega))) | (go_at_call 50; exact quiet_leftR (rLeap_any _ _ (by omega) (by omega))) | (go_at_call 49; exact quiet_leftR (rLen_any _ _ _))))
    go_wp2_with fail
    go_ret
    exact ⟨rfl, (by repeat (first | with_reducible exact Kept.refl _ | with_reducible assumption | with_reducible refine Kept.drew ?_ | with_reducible refine Kept.drewN ?_ _ | with_reducible refine Kept.alloc ?_ _ | (with_reducible refine Kept.setCell ?_ (by first | exact Nat.le_refl _ | omega | (simp; done) | (simp; omega)) _) | (with_reducible refine Kept.trans ?_ (by with_reducible assumption))))⟩

theorem rToDay_range (y m d : Int) (w : World) (h : y < 1 ∨ 1000000000 < y) :
    Calls Tryz.prog 15 #[.agg #[.int .i64 y, .int .i64 m, .int .i64 d]] w fun e w' => e = .returned (.tuple #[.int .i64 0, .int .i64 1]) ∧ Kept w w' := by
  go_enter Tryz.func15, Tryz.ntmps15
  go_wp2_with (first | (go_at_call 34; refine (In_no _ _ (by omega)).mono ?_; rintro e w1 ⟨rfl, rfl⟩))
  go_ret2
  exact ⟨rfl, (by repeat (first | with_reducible exact Kept.refl _ | with_reducible assumption | with_reducible refine Kept.drew ?_ | with_reducible refine Kept.drewN ?_ _ | with_reducible refine Kept.alloc ?_ _ | (with_reducible refine Kept.setCell ?_ (by first | exact Nat.le_refl _ | omega | (simp; done) | (simp; omega)) _) | (with_reducible refine Kept.trans ?_ (by with_reducible assumption))))⟩
theorem rToDay_date (y m d : Int) (w : World) (h1 : 1 ≤ y) (h2 : y ≤ 1000000000) (h : ¬ OkD 2 y m d) :
    Calls Tryz.prog 15 #[.agg #[.int .i64 y, .int .i64 m, .int .i64 d]] w fun e w' => e = .returned (.tuple #[.int .i64 0, .int .i64 2]) ∧ Kept w w' := by
  go_enter Tryz.func15, Tryz.ntmps15
  go_wp2_with (first | (go_at_call 34; refine (In_yes _ _ h1 h2).mono ?_; rintro e w1 ⟨rfl, rfl⟩) | (go_at_call 48; refine (rValid_no _ _ _ _ h).mono ?_; rintro e w1 ⟨rfl, hk1⟩))
  go_ret2
  exact ⟨rfl, (by repeat (first | with_reducible exact Kept.refl _ | with_reducible assumption | with_reducible refine Kept.drew ?_ | with_reducible refine Kept.drewN ?_ _ | with_reducible refine Kept.alloc ?_ _ | (with_reducible refine Kept.setCell ?_ (by first | exact Nat.le_refl _ | omega | (simp; done) | (simp; omega)) _) | (with_reducible refine Kept.trans ?_ (by with_reducible assumption))))⟩
theorem rToDay_ok (y m d : Int) (w : World) (h : OkD 2 y m d) :
    Calls Tryz.prog 15 #[.agg #[.int .i64 y, .int .i64 m, .int .i64 d]] w fun e w' => e = .returned (.tuple #[.int .i64 (num 2 y m d), .int .i64 0]) ∧ Kept w w' := by
  have hv := fun w => rValid_yes y m d w h
  have HV := Lib.hid hv
  obtain ⟨h1, h2, h3, h4, h5, h6⟩ := h
  have hb := mlen_bounds (lp 2 y) m h3 h4
  obtain ⟨hf1, hf2⟩ := fst_bounds 2 y h1 (by omega)
  have hc := cum_succ (lp 2 y)
  have HC := Lib.hid hc
  clear hv hc
  have HE : Hid (num 2 y m d = fst 2 y + cum (lp 2 y) m + d - 1) := rfl
  go_enter Tryz.func15, Tryz.ntmps15
  go_wp2_with fail
  (go_at_call 34; refine (In_yes _ _ h1 h2).mono ?_; rintro e w1 ⟨rfl, rfl⟩)
  go_wp2_with fail
  (go_at_call 48; refine (HV.out _).mono ?_; rintro e w1 ⟨rfl, hk1⟩)
  have hB1_1 := hk1
  obtain ⟨hc1_1, hf1_1⟩ := kept_cells hB1_1
  have hz1_0_1 : w.heap.size < w1.heap.size := by have := hB1_1.size; simp at this; omega
  go_wp2_with fail
  (go_at_call 20; refine (rFirst_any _ _ h1 (by omega)).mono ?_; rintro e w1 ⟨rfl, rfl⟩)
  go_wp2_with fail
  go_loopw [4, 5] (fun t i wr => Kept w1 wr ∧ ∃ k : Int, 1 ≤ k ∧ k ≤ m ∧ i = .int .i64 k ∧ t = .int .i64 (fst 2 y + cum (lp 2 y) k)) (fun _ i _ => (m - intOf i).toNat)
  case atStart => exact ⟨Kept.refl _, 1, by omega, by omega, rfl, by rw [cum_1, Int.add_zero]⟩
  case round =>
    obtain ⟨hK, k, hk1, hk2, rfl, rfl⟩ := hrel
    have hB := Kept.trans hB1_1 hK
    obtain ⟨hcX, hfX⟩ := kept_cells hB
    have cb := cum_bounds (lp 2 y) k hk1 (by omega)
    have mb := mlen_bounds (lp 2 y) k hk1 (by omega)
    by_cases hlt : k < m
    · go_wp2_with fail
      (go_at_call 50; refine (rLeap_any _ _ (by omega) (by omega)).mono ?_; rintro e w1 ⟨rfl, rfl⟩)
      go_wp2_with (go_at_call 49; refine (rLen_any _ _ _).mono ?_; rintro e w1 ⟨rfl, rfl⟩)
      go_roundw
      case rel => exact ⟨(by repeat (first | with_reducible exact Kept.refl _ | with_reducible assumption | with_reducible refine Kept.drew ?_ | with_reducible refine Kept.drewN ?_ _ | with_reducible refine Kept.alloc ?_ _ | (with_reducible refine Kept.setCell ?_ (by first | exact Nat.le_refl _ | omega | (simp; done) | (simp; omega)) _) | (with_reducible refine Kept.trans ?_ (by with_reducible assumption)))), k + 1, by omega, by omega, rfl, by rw [HC.out k hk1 (by omega)]; go_num⟩
      case measure => simp [intOf]; omega
    · have hk : k = m := by omega
      subst hk
      go_wp2_with fail
      go_ret2
      exact ⟨by rw [HE.out]; rfl, (by repeat (first | with_reducible exact Kept.refl _ | with_reducible assumption | with_reducible refine Kept.drew ?_ | with_reducible refine Kept.drewN ?_ _ | with_reducible refine Kept.alloc ?_ _ | (with_reducible refine Kept.setCell ?_ (by first | exact Nat.le_refl _ | omega | (simp; done) | (simp; omega)) _) | (with_reducible refine Kept.trans ?_ (by with_reducible assumption))))⟩

theorem rFromDay_no (n : Int) (w : World) (h : n < 1 ∨ 365242500001 ≤ n) :
    Calls Tryz.prog 68 #[.int .i64 n] w fun e w' => e = .returned (.tuple #[.agg #[.int .i64 0, .int .i64 0, .int .i64 0], .int .i64 1]) ∧ Kept w w' := by
  have F2 := fun w => rFirst_any 1000000001 w (by omega) (by omega)
  rw [fst_top, if_neg (by decide)] at F2
  have K2 := Lib.hid F2
  clear F2
  rcases h with h | h
  · go_enter Tryz.func68, Tryz.ntmps68
    go_wp2_with (go_at_call 20; (with_reducible refine (K2.out _).mono ?_); rintro e w1 ⟨rfl, rfl⟩)
    exact bodyPost_ret (v := .tuple #[.agg #[.int .i64 0, .int .i64 0, .int .i64 0], .int .i64 1]) (by simp [results, Tryz.results68, go_sem, *]) rfl ⟨rfl, (by repeat (first | with_reducible exact Kept.refl _ | with_reducible assumption | with_reducible refine Kept.drew ?_ | with_reducible refine Kept.drewN ?_ _ | with_reducible refine Kept.alloc ?_ _ | (with_reducible refine Kept.setCell ?_ (by first | exact Nat.le_refl _ | omega | (simp; done) | (simp; omega)) _) | (with_reducible refine Kept.trans ?_ (by with_reducible assumption))))⟩
  · have h' : 1 ≤ n := by omega
    go_enter Tryz.func68, Tryz.ntmps68
    go_wp2_with (go_at_call 20; (with_reducible refine (K2.out _).mono ?_); rintro e w1 ⟨rfl, rfl⟩)
    exact bodyPost_ret (v := .tuple #[.agg #[.int .i64 0, .int .i64 0, .int .i64 0], .int .i64 1]) (by simp [results, Tryz.results68, go_sem, *]) rfl ⟨rfl, (by repeat (first | with_reducible exact Kept.refl _ | with_reducible assumption | with_reducible refine Kept.drew ?_ | with_reducible refine Kept.drewN ?_ _ | with_reducible refine Kept.alloc ?_ _ | (with_reducible refine Kept.setCell ?_ (by first | exact Nat.le_refl _ | omega | (simp; done) | (simp; omega)) _) | (with_reducible refine Kept.trans ?_ (by with_reducible assumption))))⟩

/-- A whole number in memory. -/
def cellInt (w : World) (b o : Nat) : Int := match w.cell? ⟨b, o, none⟩ with
  | some v => intOf v
  | none => 0
/-- The search: the year lies between the bounds. -/
def Sought (n lo hi : Int) : Prop := 1 ≤ lo ∧ lo ≤ hi ∧ hi ≤ 1000000000 ∧ fst 2 lo ≤ n ∧ n < fst 2 (hi + 1)

set_option maxRecDepth 100000 in
theorem rFromDay_ok (n y m d : Int) (w : World) (h : OkD 2 y m d) (e : num 2 y m d = n) :
    Calls Tryz.prog 68 #[.int .i64 n] w fun e w' => e = .returned (.tuple #[.agg #[.int .i64 y, .int .i64 m, .int .i64 d], .int .i64 0]) ∧ Kept w w' := by
  have F2 := fun w => rFirst_any 1000000001 w (by omega) (by omega)
  rw [fst_top, if_neg (by decide)] at F2
  have K2 := Lib.hid F2
  clear F2
  have hy := num_year 2 y m d h
  have hn := num_bounds 2 y m d h
  rw [fst_one, fst_top, if_neg (by decide), if_neg (by decide), e] at hn
  rw [e] at hy
  have HU := Lib.hid (fun z => year_unique 2 n z y)
  have HY := Lib.hid hy
  obtain ⟨hn1, hn2⟩ := hn
  obtain ⟨h1, h2, h3, h4, h5, h6⟩ := h
  have KC := Lib.hid (cum_succ (lp 2 y))
  have KM := Lib.hid (cum_mono (lp 2 y))
  obtain ⟨hf1, hf2⟩ := fst_bounds 2 y h1 (by omega)
  have hb := mlen_bounds (lp 2 y) m h3 h4
  have hcm := cum_bounds (lp 2 y) m h3 (by omega)
  have HE : Hid (n = fst 2 y + cum (lp 2 y) m + d - 1) := e.symm
  have hS : Sought n 1 1000000000 := ⟨by omega, by omega, by omega, by rw [fst_one, if_neg (by decide)]; omega, by rw [show (1000000000 : Int) + 1 = 1000000001 from rfl, fst_top, if_neg (by decide)]; omega⟩
  have HS := Lib.hid hS
  clear e hy hS
  go_enter Tryz.func68, Tryz.ntmps68
  go_wp2_with (go_at_call 20; (with_reducible refine (K2.out _).mono ?_); rintro e w1 ⟨rfl, rfl⟩)
  go_loop [4, 5, 6] (fun lo hi _ => ∃ a b : Int, Sought n a b ∧ lo = .int .i64 a ∧ hi = .int .i64 b) (fun lo hi _ => (intOf hi - intOf lo).toNat)
  case atStart => exact ⟨_, _, HS.out, rfl, rfl⟩
  case round =>
    obtain ⟨a, b, hS, rfl, rfl⟩ := hrel
    clear HS
    have HS := Lib.hid hS
    obtain ⟨s1, s2, s3, s4, s5⟩ := hS
    clear s4 s5
    by_cases hlt : a < b
    · by_cases hmid : fst 2 ((a + b + 1) / 2) ≤ n
      · go_wp2_with (go_at_call 20; refine (rFirst_any _ _ (by omega) (by omega)).mono ?_; rintro e w1 ⟨rfl, rfl⟩)
        go_round
        case rel => exact ⟨_, _, ⟨by omega, by omega, by omega, hmid, HS.out.2.2.2.2⟩, rfl, rfl⟩
        case measure => simp [intOf]; omega
      · go_wp2_with (go_at_call 20; refine (rFirst_any _ _ (by omega) (by omega)).mono ?_; rintro e w1 ⟨rfl, rfl⟩)
        go_round
        case rel => exact ⟨_, _, ⟨by omega, by omega, by omega, HS.out.2.2.2.1, by rw [Int.sub_add_cancel]; omega⟩, rfl, rfl⟩
        case measure => simp [intOf]; omega
    · obtain rfl : a = b := by omega
      obtain rfl : a = y := HU.out a HS.out.2.2.2.1 HS.out.2.2.2.2 HY.out.1 HY.out.2
      rw [HE.out, show fst 2 a + cum (lp 2 a) m + d - 1 = fst 2 a + (cum (lp 2 a) m + d - 1) from by omega]
      clear HY HU hlt s1 s2 s3
      go_wp2_with (go_at_call 20; refine (rFirst_any _ _ (by omega) (by omega)).mono ?_; rintro e w1 ⟨rfl, rfl⟩)
      go_loopw [39] (fun _ wr => ∃ (k : Int) (nq : Nat), 1 ≤ k ∧ k ≤ m ∧ wr = ((w.alloc (.cells #[.int .i64 0, .int .i64 0, .int .i64 0] 29)).alloc (.cells #[.int .i64 a, .int .i64 k, .int .i64 (cum (lp 2 a) m + d - cum (lp 2 a) k)] 29)).drewN nq) (fun _ wr => (m - cellInt wr (w.heap.size + 1) 1).toNat)
      case atStart => exact ⟨1, 0, by omega, by omega, by rw [cum_1, World.drewN_zero, show fst 2 a + (cum (lp 2 a) m + d - 1) - fst 2 a + 1 = cum (lp 2 a) m + d - 0 from by omega]⟩
      case round =>
        obtain ⟨k, nq, hk1, hk2, rfl⟩ := hrel
        have cb := cum_bounds (lp 2 a) k hk1 (by omega)
        have mb := mlen_bounds (lp 2 a) k hk1 (by omega)
        by_cases hlt : k < m
        · have mm := KM.out k m hk1 hlt (by omega)
          have KQ := Lib.hid (KC.out k hk1 (by omega))
          have hgt : mlen (lp 2 a) k < cum (lp 2 a) m + d - cum (lp 2 a) k := by omega
          go_wp2_with fail
          go_quiet ((first | (go_at_call 50; exact quiet_addR (rLeap_any _ _ (by omega) (by omega))) | (go_at_call 49; exact quiet_addR (rLen_any _ _ _))))
          go_wp2_with fail
          refine wp_region_still_tail 9 (by kernel_rfl) (by kernel_rfl) ?_
          change wpStill _ _ (World.drew _) (fun a' => wpList _ _ _ _ a' (World.drew _)) _ _
          simp only [List.take_succ_cons, List.take_zero, List.drop_succ_cons, List.drop_zero]
          repeat (first | still_step | still_call (same_of (rLeap_any a _ (by omega) (by omega))) | still_call (same_of (rLen_any _ _ _)))
          refine wpStill_nil ?_
          go_wp2_with fail
          go_roundw
          case rel => exact ⟨k + 1, _, by omega, by omega, by rw [KQ.out, ← Int.sub_sub]⟩
          case measure => simp [cellInt, intOf]; omega
        · obtain rfl : k = m := by omega
          go_wp2_with fail
          go_quiet ((first | (go_at_call 50; exact quiet_addR (rLeap_any _ _ (by omega) (by omega))) | (go_at_call 49; exact quiet_addR (rLen_any _ _ _))))
          go_wp2_with fail
          exact bodyPost_ret (v := .tuple #[.agg #[.int .i64 a, .int .i64 k, .int .i64 (cum (lp 2 a) k + d - cum (lp 2 a) k)], .int .i64 0]) (by simp [results, Tryz.results68, go_sem, *]) rfl ⟨by rw [show cum (lp 2 a) k + d - cum (lp 2 a) k = d from by omega], (by repeat (first | with_reducible exact Kept.refl _ | with_reducible assumption | with_reducible refine Kept.drew ?_ | with_reducible refine Kept.drewN ?_ _ | with_reducible refine Kept.alloc ?_ _ | (with_reducible refine Kept.setCell ?_ (by first | exact Nat.le_refl _ | omega | (simp; done) | (simp; omega)) _) | (with_reducible refine Kept.trans ?_ (by with_reducible assumption))))⟩
end Go.Proofs.YtblaphkaklocfaaGreatDoor
/- Contracts: reference 02. -/
namespace Go.Proofs.YtblaphkaklocfaaGreatDoor
open Go.ChangeShapes Go.WideShapes Go.ChangeAt Go.RowKit
set_option maxHeartbeats 800000

@[local go_sem] theorem setCell_drewN' (w : World) (n : Nat) (a : Addr) (v : Value) : (w.drewN n).setCell a v = (w.setCell a v).drewN n := rfl
theorem jLeap_any (y : Int) (w : World) (h : -9223372036854775808 ≤ y) (h' : y ≤ 9223372036854775807) :
    Calls Tryz.prog 82 #[.int .i64 y] w fun e w' => e = .returned (.bool (lp 1 y)) ∧ w = w' := by
  have HL := Lib.hid (show lp 1 y = decide (y % 4 = 0) from rfl)
  go_enter Tryz.func82, Tryz.ntmps82
  go_wp2_with (go_at_call 51; refine (Mod_any _ _ _ (by omega) (by omega) (by omega) (by omega)).mono ?_; rintro e w1 ⟨rfl, rfl⟩)
  go_ret
  refine ⟨ret_bool ?_, rfl⟩
  rw [HL.out, Bool.eq_iff_iff]
  simp
theorem jFirst_any (y : Int) (w : World) (h : 1 ≤ y) (h' : y ≤ 1000000001) :
    Calls Tryz.prog 133 #[.int .i64 y] w fun e w' => e = .returned (.int .i64 (fst 1 y)) ∧ w = w' := by
  go_enter Tryz.func133, Tryz.ntmps133
  go_wp2
  go_ret
  exact ⟨rfl, rfl⟩
theorem jValid_yes (y m d : Int) (w : World) (h : OkD 1 y m d) :
    Calls Tryz.prog 132 #[.agg #[.int .i64 y, .int .i64 m, .int .i64 d]] w fun e w' => e = .returned (.bool true) ∧ Kept w w' := by
  obtain ⟨h1, h2, h3, h4, h5, h6⟩ := h
  have hb := mlen_bounds (lp 1 y) m h3 h4
  have hd : decide (d ≤ mlen (lp 1 y) m) = true := by simp; omega
  go_enter Tryz.func132, Tryz.ntmps132
  go_wp2_with fail
  go_quiet ((first | (go_at_call 34; exact quiet_leftR (In_yes _ _ h1 h2)) | (go_at_call 82; exact quiet_leftR (jLeap_any _ _ (by omega) (by omega))) | (go_at_call 49; exact quiet_leftR (rLen_any _ _ _))))
  go_wp2_with fail
  go_ret
  exact ⟨rfl, (by repeat (first | with_reducible exact Kept.refl _ | with_reducible assumption | with_reducible refine Kept.drew ?_ | with_reducible refine Kept.drewN ?_ _ | with_reducible refine Kept.alloc ?_ _ | (with_reducible refine Kept.setCell ?_ (by first | exact Nat.le_refl _ | omega | (simp; done) | (simp; omega)) _) | (with_reducible refine Kept.trans ?_ (by with_reducible assumption))))⟩
theorem jValid_no (y m d : Int) (w : World) (h : ¬ OkD 1 y m d) :
    Calls Tryz.prog 132 #[.agg #[.int .i64 y, .int .i64 m, .int .i64 d]] w fun e w' => e = .returned (.bool false) ∧ Kept w w' := by
  by_cases h1 : 1 ≤ y ∧ y ≤ 1000000000
  · obtain ⟨h1, h2⟩ := h1
    by_cases h5 : 1 ≤ d
    · have h6 : ¬ d ≤ mlen (lp 1 y) m := by
        intro h6
        refine h ⟨h1, h2, ?_, ?_, h5, h6⟩
        · by_cases g : m < 1
          · rw [mlen_out _ _ (.inl g)] at h6; omega
          · omega
        · by_cases g : 12 < m
          · rw [mlen_out _ _ (.inr g)] at h6; omega
          · omega
      have hd : decide (d ≤ mlen (lp 1 y) m) = false := by simp; omega
      go_enter Tryz.func132, Tryz.ntmps132
      go_wp2_with fail
      go_quiet ((first | (go_at_call 34; exact quiet_leftR (In_yes _ _ h1 h2)) | (go_at_call 82; exact quiet_leftR (jLeap_any _ _ (by omega) (by omega))) | (go_at_call 49; exact quiet_leftR (rLen_any _ _ _))))
      go_wp2_with fail
      go_ret
      exact ⟨rfl, (by repeat (first | with_reducible exact Kept.refl _ | with_reducible assumption | with_reducible refine Kept.drew ?_ | with_reducible refine Kept.drewN ?_ _ | with_reducible refine Kept.alloc ?_ _ | (with_reducible refine Kept.setCell ?_ (by first | exact Nat.le_refl _ | omega | (simp; done) | (simp; omega)) _) | (with_reducible refine Kept.trans ?_ (by with_reducible assumption))))⟩
    · have hd : decide (1 ≤ d) = false := by simp; omega
      go_enter Tryz.func132, Tryz.ntmps132
      go_wp2_with fail
      go_quiet ((first | (go_at_call 34; exact quiet_leftR (In_yes _ _ h1 h2)) | (go_at_call 82; exact quiet_leftR (jLeap_any _ _ (by omega) (by omega))) | (go_at_call 49; exact quiet_leftR (rLen_any _ _ _))))
      go_wp2_with fail
      go_ret
      exact ⟨rfl, (by repeat (first | with_reducible exact Kept.refl _ | with_reducible assumption | with_reducible refine Kept.drew ?_ | with_reducible refine Kept.drewN ?_ _ | with_reducible refine Kept.alloc ?_ _ | (with_reducible refine Kept.setCell ?_ (by first | exact Nat.le_refl _ | omega | (simp; done) | (simp; omega)) _) | (with_reducible refine Kept.trans ?_ (by with_reducible assumption))))⟩
  · go_enter Tryz.func132, Tryz.ntmps132
    go_wp2_with fail
    go_quiet ((first | (go_at_call 34; exact quiet_leftR (In_no _ _ (by omega))) | (go_at_call 82; exact quiet_leftR (jLeap_any _ _ (by omega) (by omega))) | (go_at_call 49; exact quiet_leftR (rLen_any _ _ _))))
    go_wp2_with fail
    go_ret
    exact ⟨rfl, (by repeat (first | with_reducible exact Kept.refl _ | with_reducible assumption | with_reducible refine Kept.drew ?_ | with_reducible refine Kept.drewN ?_ _ | with_reducible refine Kept.alloc ?_ _ | (with_reducible refine Kept.setCell ?_ (by first | exact Nat.le_refl _ | omega | (simp; done) | (simp; omega)) _) | (with_reducible refine Kept.trans ?_ (by with_reducible assumption))))⟩

theorem jToDay_range (y m d : Int) (w : World) (h : y < 1 ∨ 1000000000 < y) :
    Calls Tryz.prog 86 #[.agg #[.int .i64 y, .int .i64 m, .int .i64 d]] w fun e w' => e = .returned (.tuple #[.int .i64 0, .int .i64 1]) ∧ Kept w w' := by
  go_enter Tryz.func86, Tryz.ntmps86
  go_wp2_with (first | (go_at_call 34; refine (In_no _ _ (by omega)).mono ?_; rintro e w1 ⟨rfl, rfl⟩))
  go_ret2
  exact ⟨rfl, (by repeat (first | with_reducible exact Kept.refl _ | with_reducible assumption | with_reducible refine Kept.drew ?_ | with_reducible refine Kept.drewN ?_ _ | with_reducible refine Kept.alloc ?_ _ | (with_reducible refine Kept.setCell ?_ (by first | exact Nat.le_refl _ | omega | (simp; done) | (simp; omega)) _) | (with_reducible refine Kept.trans ?_ (by with_reducible assumption))))⟩
theorem jToDay_date (y m d : Int) (w : World) (h1 : 1 ≤ y) (h2 : y ≤ 1000000000) (h : ¬ OkD 1 y m d) :
    Calls Tryz.prog 86 #[.agg #[.int .i64 y, .int .i64 m, .int .i64 d]] w fun e w' => e = .returned (.tuple #[.int .i64 0, .int .i64 2]) ∧ Kept w w' := by
  go_enter Tryz.func86, Tryz.ntmps86
  go_wp2_with (first | (go_at_call 34; refine (In_yes _ _ h1 h2).mono ?_; rintro e w1 ⟨rfl, rfl⟩) | (go_at_call 132; refine (jValid_no _ _ _ _ h).mono ?_; rintro e w1 ⟨rfl, hk1⟩))
  go_ret2
  exact ⟨rfl, (by repeat (first | with_reducible exact Kept.refl _ | with_reducible assumption | with_reducible refine Kept.drew ?_ | with_reducible refine Kept.drewN ?_ _ | with_reducible refine Kept.alloc ?_ _ | (with_reducible refine Kept.setCell ?_ (by first | exact Nat.le_refl _ | omega | (simp; done) | (simp; omega)) _) | (with_reducible refine Kept.trans ?_ (by with_reducible assumption))))⟩
theorem jToDay_ok (y m d : Int) (w : World) (h : OkD 1 y m d) :
    Calls Tryz.prog 86 #[.agg #[.int .i64 y, .int .i64 m, .int .i64 d]] w fun e w' => e = .returned (.tuple #[.int .i64 (num 1 y m d), .int .i64 0]) ∧ Kept w w' := by
  have hv := fun w => jValid_yes y m d w h
  have HV := Lib.hid hv
  obtain ⟨h1, h2, h3, h4, h5, h6⟩ := h
  have hb := mlen_bounds (lp 1 y) m h3 h4
  obtain ⟨hf1, hf2⟩ := fst_bounds 1 y h1 (by omega)
  have hc := cum_succ (lp 1 y)
  have HC := Lib.hid hc
  clear hv hc
  have HE : Hid (num 1 y m d = fst 1 y + cum (lp 1 y) m + d - 1) := rfl
  go_enter Tryz.func86, Tryz.ntmps86
  go_wp2_with fail
  (go_at_call 34; refine (In_yes _ _ h1 h2).mono ?_; rintro e w1 ⟨rfl, rfl⟩)
  go_wp2_with fail
  (go_at_call 132; refine (HV.out _).mono ?_; rintro e w1 ⟨rfl, hk1⟩)
  have hB1_1 := hk1
  obtain ⟨hc1_1, hf1_1⟩ := kept_cells hB1_1
  have hz1_0_1 : w.heap.size < w1.heap.size := by have := hB1_1.size; simp at this; omega
  go_wp2_with fail
  (go_at_call 133; refine (jFirst_any _ _ h1 (by omega)).mono ?_; rintro e w1 ⟨rfl, rfl⟩)
  go_wp2_with fail
  go_loopw [4, 5] (fun t i wr => Kept w1 wr ∧ ∃ k : Int, 1 ≤ k ∧ k ≤ m ∧ i = .int .i64 k ∧ t = .int .i64 (fst 1 y + cum (lp 1 y) k)) (fun _ i _ => (m - intOf i).toNat)
  case atStart => exact ⟨Kept.refl _, 1, by omega, by omega, rfl, by rw [cum_1, Int.add_zero]⟩
  case round =>
    obtain ⟨hK, k, hk1, hk2, rfl, rfl⟩ := hrel
    have hB := Kept.trans hB1_1 hK
    obtain ⟨hcX, hfX⟩ := kept_cells hB
    have cb := cum_bounds (lp 1 y) k hk1 (by omega)
    have mb := mlen_bounds (lp 1 y) k hk1 (by omega)
    by_cases hlt : k < m
    · go_wp2_with fail
      (go_at_call 82; refine (jLeap_any _ _ (by omega) (by omega)).mono ?_; rintro e w1 ⟨rfl, rfl⟩)
      go_wp2_with (go_at_call 49; refine (rLen_any _ _ _).mono ?_; rintro e w1 ⟨rfl, rfl⟩)
      go_roundw
      case rel => exact ⟨(by repeat (first | with_reducible exact Kept.refl _ | with_reducible assumption | with_reducible refine Kept.drew ?_ | with_reducible refine Kept.drewN ?_ _ | with_reducible refine Kept.alloc ?_ _ | (with_reducible refine Kept.setCell ?_ (by first | exact Nat.le_refl _ | omega | (simp; done) | (simp; omega)) _) | (with_reducible refine Kept.trans ?_ (by with_reducible assumption)))), k + 1, by omega, by omega, rfl, by rw [HC.out k hk1 (by omega)]; go_num⟩
      case measure => simp [intOf]; omega
    · have hk : k = m := by omega
      subst hk
      go_wp2_with fail
      go_ret2
      exact ⟨by rw [HE.out]; rfl, (by repeat (first | with_reducible exact Kept.refl _ | with_reducible assumption | with_reducible refine Kept.drew ?_ | with_reducible refine Kept.drewN ?_ _ | with_reducible refine Kept.alloc ?_ _ | (with_reducible refine Kept.setCell ?_ (by first | exact Nat.le_refl _ | omega | (simp; done) | (simp; omega)) _) | (with_reducible refine Kept.trans ?_ (by with_reducible assumption))))⟩

theorem jFromDay_no (n : Int) (w : World) (h : n < -1 ∨ 365249999999 ≤ n) :
    Calls Tryz.prog 260 #[.int .i64 n] w fun e w' => e = .returned (.tuple #[.agg #[.int .i64 0, .int .i64 0, .int .i64 0], .int .i64 1]) ∧ Kept w w' := by
  have F2 := fun w => jFirst_any 1000000001 w (by omega) (by omega)
  rw [fst_top, if_pos rfl] at F2
  have K2 := Lib.hid F2
  clear F2
  rcases h with h | h
  · go_enter Tryz.func260, Tryz.ntmps260
    go_wp2_with (go_at_call 133; (with_reducible refine (K2.out _).mono ?_); rintro e w1 ⟨rfl, rfl⟩)
    exact bodyPost_ret (v := .tuple #[.agg #[.int .i64 0, .int .i64 0, .int .i64 0], .int .i64 1]) (by simp [results, Tryz.results260, go_sem, *]) rfl ⟨rfl, (by repeat (first | with_reducible exact Kept.refl _ | with_reducible assumption | with_reducible refine Kept.drew ?_ | with_reducible refine Kept.drewN ?_ _ | with_reducible refine Kept.alloc ?_ _ | (with_reducible refine Kept.setCell ?_ (by first | exact Nat.le_refl _ | omega | (simp; done) | (simp; omega)) _) | (with_reducible refine Kept.trans ?_ (by with_reducible assumption))))⟩
  · have h' : -1 ≤ n := by omega
    go_enter Tryz.func260, Tryz.ntmps260
    go_wp2_with (go_at_call 133; (with_reducible refine (K2.out _).mono ?_); rintro e w1 ⟨rfl, rfl⟩)
    exact bodyPost_ret (v := .tuple #[.agg #[.int .i64 0, .int .i64 0, .int .i64 0], .int .i64 1]) (by simp [results, Tryz.results260, go_sem, *]) rfl ⟨rfl, (by repeat (first | with_reducible exact Kept.refl _ | with_reducible assumption | with_reducible refine Kept.drew ?_ | with_reducible refine Kept.drewN ?_ _ | with_reducible refine Kept.alloc ?_ _ | (with_reducible refine Kept.setCell ?_ (by first | exact Nat.le_refl _ | omega | (simp; done) | (simp; omega)) _) | (with_reducible refine Kept.trans ?_ (by with_reducible assumption))))⟩

/-- The search: the year lies between the bounds. -/
def SoughtJ (n lo hi : Int) : Prop := 1 ≤ lo ∧ lo ≤ hi ∧ hi ≤ 1000000000 ∧ fst 1 lo ≤ n ∧ n < fst 1 (hi + 1)

set_option maxRecDepth 100000 in
theorem jFromDay_ok (n y m d : Int) (w : World) (h : OkD 1 y m d) (e : num 1 y m d = n) :
    Calls Tryz.prog 260 #[.int .i64 n] w fun e w' => e = .returned (.tuple #[.agg #[.int .i64 y, .int .i64 m, .int .i64 d], .int .i64 0]) ∧ Kept w w' := by
  have F2 := fun w => jFirst_any 1000000001 w (by omega) (by omega)
  rw [fst_top, if_pos rfl] at F2
  have K2 := Lib.hid F2
  clear F2
  have hy := num_year 1 y m d h
  have hn := num_bounds 1 y m d h
  rw [fst_one, fst_top, if_pos rfl, if_pos rfl, e] at hn
  rw [e] at hy
  have HU := Lib.hid (fun z => year_unique 1 n z y)
  have HY := Lib.hid hy
  obtain ⟨hn1, hn2⟩ := hn
  obtain ⟨h1, h2, h3, h4, h5, h6⟩ := h
  have KC := Lib.hid (cum_succ (lp 1 y))
  have KM := Lib.hid (cum_mono (lp 1 y))
  obtain ⟨hf1, hf2⟩ := fst_bounds 1 y h1 (by omega)
  have hb := mlen_bounds (lp 1 y) m h3 h4
  have hcm := cum_bounds (lp 1 y) m h3 (by omega)
  have HE : Hid (n = fst 1 y + cum (lp 1 y) m + d - 1) := e.symm
  have hS : SoughtJ n 1 1000000000 := ⟨by omega, by omega, by omega, by rw [fst_one, if_pos rfl]; omega, by rw [show (1000000000 : Int) + 1 = 1000000001 from rfl, fst_top, if_pos rfl]; omega⟩
  have HS := Lib.hid hS
  clear e hy hS
  go_enter Tryz.func260, Tryz.ntmps260
  go_wp2_with (go_at_call 133; (with_reducible refine (K2.out _).mono ?_); rintro e w1 ⟨rfl, rfl⟩)
  go_loop [4, 5, 6] (fun lo hi _ => ∃ a b : Int, SoughtJ n a b ∧ lo = .int .i64 a ∧ hi = .int .i64 b) (fun lo hi _ => (intOf hi - intOf lo).toNat)
  case atStart => exact ⟨_, _, HS.out, rfl, rfl⟩
  case round =>
    obtain ⟨a, b, hS, rfl, rfl⟩ := hrel
    clear HS
    have HS := Lib.hid hS
    obtain ⟨s1, s2, s3, s4, s5⟩ := hS
    clear s4 s5
    by_cases hlt : a < b
    · by_cases hmid : fst 1 ((a + b + 1) / 2) ≤ n
      · go_wp2_with (go_at_call 133; refine (jFirst_any _ _ (by omega) (by omega)).mono ?_; rintro e w1 ⟨rfl, rfl⟩)
        go_round
        case rel => exact ⟨_, _, ⟨by omega, by omega, by omega, hmid, HS.out.2.2.2.2⟩, rfl, rfl⟩
        case measure => simp [intOf]; omega
      · go_wp2_with (go_at_call 133; refine (jFirst_any _ _ (by omega) (by omega)).mono ?_; rintro e w1 ⟨rfl, rfl⟩)
        go_round
        case rel => exact ⟨_, _, ⟨by omega, by omega, by omega, HS.out.2.2.2.1, by rw [Int.sub_add_cancel]; omega⟩, rfl, rfl⟩
        case measure => simp [intOf]; omega
    · obtain rfl : a = b := by omega
      obtain rfl : a = y := HU.out a HS.out.2.2.2.1 HS.out.2.2.2.2 HY.out.1 HY.out.2
      rw [HE.out, show fst 1 a + cum (lp 1 a) m + d - 1 = fst 1 a + (cum (lp 1 a) m + d - 1) from by omega]
      clear HY HU hlt s1 s2 s3
      go_wp2_with (go_at_call 133; refine (jFirst_any _ _ (by omega) (by omega)).mono ?_; rintro e w1 ⟨rfl, rfl⟩)
      go_loopw [39] (fun _ wr => ∃ (k : Int) (nq : Nat), 1 ≤ k ∧ k ≤ m ∧ wr = ((w.alloc (.cells #[.int .i64 0, .int .i64 0, .int .i64 0] 29)).alloc (.cells #[.int .i64 a, .int .i64 k, .int .i64 (cum (lp 1 a) m + d - cum (lp 1 a) k)] 29)).drewN nq) (fun _ wr => (m - cellInt wr (w.heap.size + 1) 1).toNat)
      case atStart => exact ⟨1, 0, by omega, by omega, by rw [cum_1, World.drewN_zero, show fst 1 a + (cum (lp 1 a) m + d - 1) - fst 1 a + 1 = cum (lp 1 a) m + d - 0 from by omega]⟩
      case round =>
        obtain ⟨k, nq, hk1, hk2, rfl⟩ := hrel
        have cb := cum_bounds (lp 1 a) k hk1 (by omega)
        have mb := mlen_bounds (lp 1 a) k hk1 (by omega)
        by_cases hlt : k < m
        · have mm := KM.out k m hk1 hlt (by omega)
          have KQ := Lib.hid (KC.out k hk1 (by omega))
          have hgt : mlen (lp 1 a) k < cum (lp 1 a) m + d - cum (lp 1 a) k := by omega
          go_wp2_with fail
          go_quiet ((first | (go_at_call 82; exact quiet_addR (jLeap_any _ _ (by omega) (by omega))) | (go_at_call 49; exact quiet_addR (rLen_any _ _ _))))
          go_wp2_with fail
          refine wp_region_still_tail 9 (by kernel_rfl) (by kernel_rfl) ?_
          change wpStill _ _ (World.drew _) (fun a' => wpList _ _ _ _ a' (World.drew _)) _ _
          simp only [List.take_succ_cons, List.take_zero, List.drop_succ_cons, List.drop_zero]
          repeat (first | still_step | still_call (same_of (jLeap_any a _ (by omega) (by omega))) | still_call (same_of (rLen_any _ _ _)))
          refine wpStill_nil ?_
          go_wp2_with fail
          go_roundw
          case rel => exact ⟨k + 1, _, by omega, by omega, by rw [KQ.out, ← Int.sub_sub]⟩
          case measure => simp [cellInt, intOf]; omega
        · obtain rfl : k = m := by omega
          go_wp2_with fail
          go_quiet ((first | (go_at_call 82; exact quiet_addR (jLeap_any _ _ (by omega) (by omega))) | (go_at_call 49; exact quiet_addR (rLen_any _ _ _))))
          go_wp2_with fail
          exact bodyPost_ret (v := .tuple #[.agg #[.int .i64 a, .int .i64 k, .int .i64 (cum (lp 1 a) k + d - cum (lp 1 a) k)], .int .i64 0]) (by simp [results, Tryz.results260, go_sem, *]) rfl ⟨by rw [show cum (lp 1 a) k + d - cum (lp 1 a) k = d from by omega], (by repeat (first | with_reducible exact Kept.refl _ | with_reducible assumption | with_reducible refine Kept.drew ?_ | with_reducible refine Kept.drewN ?_ _ | with_reducible refine Kept.alloc ?_ _ | (with_reducible refine Kept.setCell ?_ (by first | exact Nat.le_refl _ | omega | (simp; done) | (simp; omega)) _) | (with_reducible refine Kept.trans ?_ (by with_reducible assumption))))⟩
end Go.Proofs.YtblaphkaklocfaaGreatDoor
/- Plain: what the functions on dates of both calendars return. -/
namespace Go.Proofs.YtblaphkaklocfaaGreatDoor

instance (k y m d : Int) : Decidable (OkD k y m d) := by unfold OkD; infer_instance
/-- The number of a date, or 0. -/
def tdN (k y m d : Int) : Int := if OkD k y m d then num k y m d else 0
/-- The error of a date. -/
def tdE (k y m d : Int) : Int := if y < 1 ∨ 1000000000 < y then 1 else if OkD k y m d then 0 else 2
/-- Is it a date? -/
def okB (k y m d : Int) : Bool := decide (OkD k y m d)
theorem td_cases (k y m d : Int) : ((y < 1 ∨ 1000000000 < y) ∧ tdN k y m d = 0 ∧ tdE k y m d = 1) ∨ ((1 ≤ y ∧ y ≤ 1000000000 ∧ ¬ OkD k y m d) ∧ tdN k y m d = 0 ∧ tdE k y m d = 2) ∨ (OkD k y m d ∧ tdN k y m d = num k y m d ∧ tdE k y m d = 0) := by
  unfold tdN tdE
  by_cases h : OkD k y m d
  · have h1 := h.1
    have h2 := h.2.1
    exact .inr (.inr ⟨h, if_pos h, by rw [if_neg (by omega), if_pos h]⟩)
  · by_cases h' : 1 ≤ y ∧ y ≤ 1000000000
    · exact .inr (.inl ⟨⟨h'.1, h'.2, h⟩, if_neg h, by rw [if_neg (by omega), if_neg h]⟩)
    · exact .inl ⟨by omega, if_neg h, if_pos (by omega)⟩
/-- The date of a number, or zeros, and the error. -/
def FdRel (k n y m d e : Int) : Prop := ((n < fst k 1 ∨ fst k 1000000001 ≤ n) ∧ y = 0 ∧ m = 0 ∧ d = 0 ∧ e = 1) ∨ (OkD k y m d ∧ num k y m d = n ∧ e = 0)
theorem fd_some (k n : Int) : ∃ y m d e, FdRel k n y m d e := by
  by_cases h : n < fst k 1 ∨ fst k 1000000001 ≤ n
  · exact ⟨0, 0, 0, 1, .inl ⟨h, rfl, rfl, rfl, rfl⟩⟩
  · obtain ⟨y, m, d, h1, h2⟩ := date_of k n (by omega) (by omega)
    exact ⟨y, m, d, 0, .inr ⟨h1, h2, rfl⟩⟩
theorem fd_far (k n y m d e : Int) (h : n < -1 ∨ 365249999999 ≤ n) (hf : FdRel k n y m d e) : y = 0 ∧ m = 0 ∧ d = 0 ∧ e = 1 := by
  rcases hf with ⟨_, a⟩ | ⟨a, b, _⟩
  · exact a
  · have := num_bounds k y m d a
    rw [fst_one, fst_top] at this
    split at this <;> omega

/-- A calendar. -/
def IsCal (c : Int) : Prop := c = 1 ∨ c = 2
instance (c : Int) : Decidable (IsCal c) := by unfold IsCal; infer_instance
def cN (c y m d : Int) : Int := if IsCal c then tdN c y m d else 0
def cE (c y m d : Int) : Int := if IsCal c then tdE c y m d else 3
theorem cal_cases (c : Int) : c = 1 ∨ c = 2 ∨ (¬ IsCal c ∧ (c < 1 ∨ 2 < c)) := by unfold IsCal; omega
theorem c_cases (c y m d : Int) : (IsCal c ∧ OkD c y m d ∧ cN c y m d = num c y m d ∧ cE c y m d = 0) ∨ (cN c y m d = 0 ∧ 1 ≤ cE c y m d ∧ cE c y m d ≤ 3 ∧ ¬ (IsCal c ∧ OkD c y m d)) := by
  unfold cN cE
  by_cases h : IsCal c
  · rw [if_pos h, if_pos h]
    rcases td_cases c y m d with ⟨a, b, e⟩ | ⟨a, b, e⟩ | ⟨a, b, e⟩
    · exact .inr ⟨b, by omega, by omega, fun g => by have := g.2.1; have := g.2.2.1; omega⟩
    · exact .inr ⟨b, by omega, by omega, fun g => a.2.2 g.2⟩
    · exact .inl ⟨h, a, b, e⟩
  · rw [if_neg h, if_neg h]
    exact .inr ⟨rfl, by omega, by omega, fun g => h g.1⟩
/-- The date of a number in a calendar. -/
def FdC (c n y m d e : Int) : Prop := (IsCal c ∧ FdRel c n y m d e) ∨ (¬ IsCal c ∧ y = 0 ∧ m = 0 ∧ d = 0 ∧ e = 3)
theorem fdC_some (c n : Int) : ∃ y m d e, FdC c n y m d e := by
  by_cases h : IsCal c
  · obtain ⟨y, m, d, e, hf⟩ := fd_some c n
    exact ⟨y, m, d, e, .inl ⟨h, hf⟩⟩
  · exact ⟨0, 0, 0, 3, .inr ⟨h, rfl, rfl, rfl, rfl⟩⟩
/-- A date in another calendar. -/
def CvRel (y m d a b x1 x2 x3 e : Int) : Prop :=
  (¬ IsCal b ∧ x1 = 0 ∧ x2 = 0 ∧ x3 = 0 ∧ e = 3) ∨ (IsCal b ∧ cE a y m d ≠ 0 ∧ x1 = 0 ∧ x2 = 0 ∧ x3 = 0 ∧ e = cE a y m d) ∨ (IsCal b ∧ cE a y m d = 0 ∧ FdC b (cN a y m d) x1 x2 x3 e)
theorem cv_some (y m d a b : Int) : ∃ x1 x2 x3 e, CvRel y m d a b x1 x2 x3 e := by
  by_cases h : IsCal b
  · by_cases g : cE a y m d = 0
    · obtain ⟨x1, x2, x3, e, hf⟩ := fdC_some b (cN a y m d)
      exact ⟨x1, x2, x3, e, .inr (.inr ⟨h, g, hf⟩)⟩
    · exact ⟨0, 0, 0, _, .inr (.inl ⟨h, g, rfl, rfl, rfl, rfl⟩)⟩
  · exact ⟨0, 0, 0, 3, .inl ⟨h, rfl, rfl, rfl, rfl⟩⟩
/-- The day of the year. -/
def oyN (c y m d : Int) : Int := if cE c y m d = 0 then cum (lp c y) m + d else 0
theorem oy_pos (c y m d : Int) (h : cE c y m d = 0) : oyN c y m d = num c y m d - fst c y + 1 := by
  unfold oyN num; rw [if_pos h]; omega
/-- The length of a year. -/
def ylN (c y : Int) : Int := if IsCal c ∧ 1 ≤ y ∧ y ≤ 1000000000 then (365 + if lp c y then 1 else 0) else 0
def ylE (c y : Int) : Int := if IsCal c then (if 1 ≤ y ∧ y ≤ 1000000000 then 0 else 1) else 3
theorem yl_cases (c y : Int) : (¬ IsCal c ∧ ylN c y = 0 ∧ ylE c y = 3) ∨ (IsCal c ∧ (y < 1 ∨ 1000000000 < y) ∧ ylN c y = 0 ∧ ylE c y = 1) ∨ (IsCal c ∧ 1 ≤ y ∧ y ≤ 1000000000 ∧ ylN c y = 365 + (if lp c y then 1 else 0) ∧ ylE c y = 0) := by
  unfold ylN ylE
  by_cases h : IsCal c
  · by_cases g : 1 ≤ y ∧ y ≤ 1000000000
    · exact .inr (.inr ⟨h, g.1, g.2, if_pos ⟨h, g⟩, by rw [if_pos h, if_pos g]⟩)
    · exact .inr (.inl ⟨h, by omega, if_neg (fun x => g x.2), by rw [if_pos h, if_neg g]⟩)
  · exact .inl ⟨h, if_neg (fun x => h x.1), if_neg h⟩
/-- The date of a day of the year. -/
def FyRel (c y n x1 x2 x3 e : Int) : Prop :=
  (ylE c y ≠ 0 ∧ x1 = 0 ∧ x2 = 0 ∧ x3 = 0 ∧ e = ylE c y) ∨ (ylE c y = 0 ∧ (n < 1 ∨ ylN c y < n) ∧ x1 = 0 ∧ x2 = 0 ∧ x3 = 0 ∧ e = 2) ∨ (ylE c y = 0 ∧ 1 ≤ n ∧ n ≤ ylN c y ∧ x1 = y ∧ OkD c y x2 x3 ∧ cum (lp c y) x2 + x3 = n ∧ e = 0)
theorem day_of (b : Bool) (n : Int) (h : 1 ≤ n) (h' : n ≤ 365 + if b then 1 else 0) : ∃ m d, 1 ≤ m ∧ m ≤ 12 ∧ 1 ≤ d ∧ d ≤ mlen b m ∧ cum b m + d = n := by
  obtain ⟨m, a1, a2, a3, a4⟩ := month_of b (n - 1) (by omega) (by rw [cum_13]; omega)
  exact ⟨m, n - cum b m, a1, a2, by omega, by omega, by omega⟩
theorem fy_some (c y n : Int) : ∃ x1 x2 x3 e, FyRel c y n x1 x2 x3 e := by
  by_cases h : ylE c y = 0
  · by_cases g : n < 1 ∨ ylN c y < n
    · exact ⟨0, 0, 0, 2, .inr (.inl ⟨h, g, rfl, rfl, rfl, rfl⟩)⟩
    · rcases yl_cases c y with ⟨_, _, a⟩ | ⟨_, _, _, a⟩ | ⟨a1, a2, a3, a4, a5⟩
      · omega
      · omega
      · obtain ⟨m, d, b1, b2, b3, b4, b5⟩ := day_of (lp c y) n (by omega) (by omega)
        exact ⟨y, m, d, 0, .inr (.inr ⟨h, by omega, by omega, rfl, ⟨a2, a3, b1, b2, b3, b4⟩, b5, rfl⟩)⟩
  · exact ⟨0, 0, 0, _, .inl ⟨h, rfl, rfl, rfl, rfl⟩⟩
/-- A date shifted. -/
def ShRel (c y m d n x1 x2 x3 e : Int) : Prop :=
  (cE c y m d ≠ 0 ∧ x1 = 0 ∧ x2 = 0 ∧ x3 = 0 ∧ e = cE c y m d) ∨ (cE c y m d = 0 ∧ FdC c (cN c y m d + n) x1 x2 x3 e)
theorem sh_some (c y m d n : Int) : ∃ x1 x2 x3 e, ShRel c y m d n x1 x2 x3 e := by
  by_cases g : cE c y m d = 0
  · obtain ⟨x1, x2, x3, e, hf⟩ := fdC_some c (cN c y m d + n)
    exact ⟨x1, x2, x3, e, .inr ⟨g, hf⟩⟩
  · exact ⟨0, 0, 0, _, .inl ⟨g, rfl, rfl, rfl, rfl⟩⟩
/-- The day of the week of a date. -/
def wdN (c y m d : Int) : Int := if cE c y m d = 0 then cN c y m d % 7 else 0
theorem cN_bounds (c y m d : Int) : -1 ≤ cN c y m d ∧ cN c y m d ≤ 365249999999 := by
  rcases c_cases c y m d with ⟨_, h, e, _⟩ | ⟨e, _⟩
  · have := num_bounds c y m d h
    rw [fst_one, fst_top] at this
    rw [e]
    split at this <;> omega
  · rw [e]; omega
end Go.Proofs.YtblaphkaklocfaaGreatDoor

/- Contracts and plain lemmas: Greg, Greg2, Greg3, Jul, Jul2. -/
import Derived.Test.YtblaphkaklocfaaGreatDoorRows
import Derived.Test.YtblaphkaklocfaaGreatDoorG01
import Derived.Deep.QuietTactic
import Derived.BigQuiet
set_option linter.unusedSimpArgs false
set_option linter.unusedVariables false
set_option linter.unusedSectionVars false
/- Contracts: intmath.Div and package gregorian. -/
namespace Go.Proofs.YtblaphkaklocfaaGreatDoor
open Go.ChangeShapes Go.WideShapes Go.ChangeAt Go.RowKit
set_option maxHeartbeats 400000

/-- Floored division. -/
theorem split_nn (a b : Int) (w : World) (ha : 0 ≤ a) (ha' : a ≤ 4611686018427387904) (hb : 1 ≤ b) (hb' : b ≤ 4611686018427387904) :
    Calls Tryz.prog 247 #[.int .i64 a, .int .i64 b] w fun e w' => e = .returned (.tuple #[.int .i64 (a / b), .int .i64 (a % b), .bool true]) ∧ w.drew = w' := by
  have h0 : 0 ≤ a / b := Int.ediv_nonneg ha (by omega)
  have h1 : 0 ≤ a % b := Int.emod_nonneg _ (by omega)
  have h2 : a % b < b := Int.emod_lt_of_pos _ (by omega)
  have h3 : decide (a % b < 0) = false := by simp; omega
  have h4 : decide (b < 0) = false := by simp; omega
  go_enter Tryz.func247, Tryz.ntmps247
  go_wp2
  go_region
  go_wp2
  all_goals go_ret3
  all_goals first | exact ⟨rfl, rfl⟩ | exact ⟨by simp [*], rfl⟩
theorem emod_lem (a b : Int) : (b * (a / b)) + a % b = a := Int.mul_ediv_add_emod a b
theorem tmod_neg_bounds (a b : Int) (ha : a ≤ 0) (hb : 1 ≤ b) : -b < a.tmod b ∧ a.tmod b ≤ 0 := by
  have h := Int.mul_tdiv_add_tmod a b
  have h2 := (tdiv_neg_bounds a b ha hb).2.2.1
  have h3 := Int.lt_tmod_of_pos a (show 0 < b by omega)
  have h4 : a.tdiv b * b = b * a.tdiv b := Int.mul_comm _ _
  omega
theorem tmod_eq (a b : Int) (ha : a ≤ 0) (hb : 1 ≤ b) : (a.tmod b = 0 → a.tdiv b = a / b ∧ a.tmod b = a % b) ∧ (a.tmod b ≠ 0 → a.tdiv b - 1 = a / b ∧ a.tmod b + b = a % b) := by
  have h := Int.mul_tdiv_add_tmod a b
  have h1 := Int.mul_ediv_add_emod a b
  have h4 : a.tdiv b * b = b * a.tdiv b := Int.mul_comm _ _
  obtain ⟨h5, h6⟩ := tdiv_eq a b ha hb
  constructor
  · intro h0
    have e := h5 (by omega)
    exact ⟨e, by rw [← e] at h1; omega⟩
  · intro h0
    have e := h6 (by omega)
    refine ⟨e, ?_⟩
    rw [← e, Int.mul_sub, Int.mul_one] at h1
    omega
theorem split_neg (a b : Int) (w : World) (ha : a < 0) (ha' : -4611686018427387904 ≤ a) (hb : 1 ≤ b) (hb' : b ≤ 4611686018427387904) :
    Calls Tryz.prog 247 #[.int .i64 a, .int .i64 b] w fun e w' => e = .returned (.tuple #[.int .i64 (a / b), .int .i64 (a % b), .bool true]) ∧ w.drew = w' := by
  obtain ⟨h0, h1, _, _⟩ := tdiv_neg_bounds a b (by omega) hb
  obtain ⟨h2, h3⟩ := tmod_neg_bounds a b (by omega) hb
  obtain ⟨h6, h7⟩ := tmod_eq a b (by omega) hb
  have h4 : decide (b < 0) = false := by simp; omega
  by_cases hz : a.tmod b = 0
  · obtain ⟨h8, h9⟩ := h6 hz
    have H8 := Lib.hid h8
    clear h6 h7
    have H0 := Lib.hid (h9.symm.trans hz)
    have hz' : 0 ≤ a.tmod b := by omega
    clear hz h8 h9
    go_enter Tryz.func247, Tryz.ntmps247
    go_wp2
    go_region
    go_wp2
    go_ret3
    exact ⟨by rw [H0.out, ← H8.out]; rfl, rfl⟩
  · obtain ⟨h8, h9⟩ := h7 hz
    have H8 := Lib.hid h8
    have H9 := Lib.hid h9
    clear h6 h7 h8 h9
    have h5 : decide (a.tmod b < 0) = true := by simp; omega
    go_enter Tryz.func247, Tryz.ntmps247
    go_wp2
    go_region
    go_wp2
    go_ret3
    exact ⟨by rw [← H8.out, ← H9.out]; rfl, rfl⟩
theorem split_any (a b : Int) (w : World) (ha : -4611686018427387904 ≤ a) (ha' : a ≤ 4611686018427387904) (hb : 1 ≤ b) (hb' : b ≤ 4611686018427387904) :
    Calls Tryz.prog 247 #[.int .i64 a, .int .i64 b] w fun e w' => e = .returned (.tuple #[.int .i64 (a / b), .int .i64 (a % b), .bool true]) ∧ w.drew = w' := by
  by_cases h : 0 ≤ a
  · exact split_nn a b w h ha' hb hb'
  · exact split_neg a b w (by omega) ha hb hb'
theorem IDiv_any (a b : Int) (w : World) (ha : -4611686018427387904 ≤ a) (ha' : a ≤ 4611686018427387904) (hb : 1 ≤ b) (hb' : b ≤ 4611686018427387904) :
    Calls Tryz.prog 201 #[.int .i64 a, .int .i64 b] w fun e w' => e = .returned (.tuple #[.int .i64 (a / b), .bool true]) ∧ w.drew = w' := by
  go_enter Tryz.func201, Tryz.ntmps201
  go_wp2_with (go_at_call 247; refine (split_any _ _ _ (by omega) (by omega) (by omega) (by omega)).mono ?_; rintro e w1 ⟨rfl, rfl⟩)
  go_ret2
  exact ⟨rfl, rfl⟩

theorem lp_true (y : Int) : lp 2 y = decide (y % 4 = 0 ∧ (y % 100 ≠ 0 ∨ y % 400 = 0)) := rfl
theorem tmod_zero (y m : Int) (hm : 0 < m) : y % m = 0 ↔ y.tmod m = 0 := by
  rw [← Int.dvd_iff_emod_eq_zero, Int.dvd_iff_tmod_eq_zero]
theorem Leap_any (y : Int) (w : World) :
    Calls Tryz.prog 150 #[.int .i64 y] w fun e w' => e = .returned (.bool (lp 2 y)) ∧ w = w' := by
  have hl := lp_true y
  have HL := Lib.hid hl
  have H4 := Lib.hid (tmod_zero y 4 (by omega))
  have H1 := Lib.hid (tmod_zero y 100 (by omega))
  have H5 := Lib.hid (tmod_zero y 400 (by omega))
  clear hl
  by_cases h : 0 ≤ y
  · go_enter Tryz.func150, Tryz.ntmps150
    go_wp2
    all_goals go_ret
    all_goals refine ⟨ret_bool ?_, rfl⟩
    all_goals rw [HL.out, Bool.eq_iff_iff]
    all_goals simp
    all_goals omega
  · go_enter Tryz.func150, Tryz.ntmps150
    go_wp2
    all_goals go_ret
    all_goals refine ⟨ret_bool ?_, rfl⟩
    all_goals rw [HL.out, Bool.eq_iff_iff]
    all_goals have a4 := H4.out
    all_goals have a1 := H1.out
    all_goals have a5 := H5.out
    all_goals simp [a4, a1, a5, *]
/-- A Bool that the walk does not open. -/
def lpB (y : Int) : Bool := lp 2 y

theorem Length_out (y m : Int) (w : World) (h : m < 1 ∨ 12 < m) :
    Calls Tryz.prog 203 #[.int .i64 y, .int .i64 m] w fun e w' => e = .returned (.int .i64 0) ∧ w = w' := by
  rcases h with h | h
  all_goals
    go_enter Tryz.func203, Tryz.ntmps203
    go_wp2_with (go_at_call 150; (with_reducible refine (Leap_any _ _).mono ?_); rintro e w1 ⟨rfl, rfl⟩)
    go_ret
    exact ⟨rfl, rfl⟩
theorem Length_in (y m : Int) (w : World) (h : 1 ≤ m) (h' : m ≤ 12) :
    Calls Tryz.prog 203 #[.int .i64 y, .int .i64 m] w fun e w' => e = .returned (.int .i64 (mlen (lp 2 y) m)) ∧ w = w' := by
  by_cases h2 : m = 2
  · subst h2
    cases hl : lp 2 y
    · have HL := fun w => Leap_any y w
      rw [hl] at HL
      have KL := Lib.hid HL
      clear HL hl
      go_enter Tryz.func203, Tryz.ntmps203
      go_wp2_with (go_at_call 150; (with_reducible refine (KL.out _).mono ?_); rintro e w1 ⟨rfl, rfl⟩)
      go_ret
      exact ⟨rfl, rfl⟩
    · have HL := fun w => Leap_any y w
      rw [hl] at HL
      have KL := Lib.hid HL
      clear HL hl
      go_enter Tryz.func203, Tryz.ntmps203
      go_wp2_with (go_at_call 150; (with_reducible refine (KL.out _).mono ?_); rintro e w1 ⟨rfl, rfl⟩)
      go_ret
      exact ⟨rfl, rfl⟩
  · have hm : mlen (lp 2 y) m = 30 + (m + m / 8) % 2 := by unfold mlen; rw [if_neg (by omega), if_neg h2]
    have HM := Lib.hid hm
    have h3 : (m == 2) = false := by simpa using h2
    clear hm h2
    go_enter Tryz.func203, Tryz.ntmps203
    go_wp2_with (go_at_call 150; (with_reducible refine (Leap_any _ _).mono ?_); rintro e w1 ⟨rfl, rfl⟩)
    go_ret
    exact ⟨by rw [HM.out]; rfl, rfl⟩
theorem Length_any (y m : Int) (w : World) :
    Calls Tryz.prog 203 #[.int .i64 y, .int .i64 m] w fun e w' => e = .returned (.int .i64 (mlen (lp 2 y) m)) ∧ w = w' := by
  by_cases h : m < 1 ∨ 12 < m
  · rw [mlen_out _ _ h]; exact Length_out y m w h
  · exact Length_in y m w (by omega) (by omega)
theorem inR_yes (y : Int) (w : World) (h : 1 ≤ y) (h' : y ≤ 1000000000) :
    Calls Tryz.prog 157 #[.int .i64 y] w fun e w' => e = .returned (.bool true) ∧ w = w' := by
  have h3 : decide (y ≤ 1000000000) = true := by simp; omega
  go_enter Tryz.func157, Tryz.ntmps157
  go_wp2
  go_ret
  exact ⟨by first | rfl | (simp; done) | (simp; omega), rfl⟩
theorem inR_no (y : Int) (w : World) (h : y < 1 ∨ 1000000000 < y) :
    Calls Tryz.prog 157 #[.int .i64 y] w fun e w' => e = .returned (.bool false) ∧ w = w' := by
  go_enter Tryz.func157, Tryz.ntmps157
  go_wp2
  all_goals go_ret
  all_goals exact ⟨by first | rfl | (simp; done) | (simp; omega), rfl⟩
theorem first_any (y : Int) (w : World) (h : 1 ≤ y) (h' : y ≤ 1000000001) :
    Calls Tryz.prog 158 #[.int .i64 y] w fun e w' => e = .returned (.int .i64 (fst 2 y)) ∧ w = w' := by
  go_enter Tryz.func158, Tryz.ntmps158
  go_wp2
  go_ret
  exact ⟨rfl, rfl⟩
theorem First_ok (y : Int) (w : World) (h : 1 ≤ y) (h' : y ≤ 1000000000) :
    Calls Tryz.prog 105 #[.int .i64 y] w fun e w' => e = .returned (.tuple #[.int .i64 (fst 2 y), .int .i64 0]) ∧ w = w' := by
  go_enter Tryz.func105, Tryz.ntmps105
  go_wp2_with (first | (go_at_call 157; refine (inR_yes _ _ h h').mono ?_; rintro e w1 ⟨rfl, rfl⟩) | (go_at_call 158; refine (first_any _ _ (by omega) (by omega)).mono ?_; rintro e w1 ⟨rfl, rfl⟩))
  go_ret2
  exact ⟨rfl, rfl⟩
theorem First_no (y : Int) (w : World) (h : y < 1 ∨ 1000000000 < y) :
    Calls Tryz.prog 105 #[.int .i64 y] w fun e w' => e = .returned (.tuple #[.int .i64 0, .int .i64 1]) ∧ w = w' := by
  go_enter Tryz.func105, Tryz.ntmps105
  go_wp2_with (first | (go_at_call 157; refine (inR_no _ _ h).mono ?_; rintro e w1 ⟨rfl, rfl⟩))
  go_ret2
  exact ⟨rfl, rfl⟩
end Go.Proofs.YtblaphkaklocfaaGreatDoor
/- Contracts: package gregorian, dates. -/
namespace Go.Proofs.YtblaphkaklocfaaGreatDoor
open Go.ChangeShapes Go.WideShapes Go.ChangeAt Go.RowKit
set_option maxHeartbeats 400000

theorem quiet_left {P : Program} {f : FuncId} {args : Array Value} {w : World} {n : Nat} {v : Value}
    (h : Calls P f args (w.drewN n) fun e w' => e = .returned v ∧ w.drewN n = w') : Calls P f args (w.drewN n) fun e w'' => e = .returned v ∧ ∃ m, w'' = w.drewN m :=
  h.mono fun _ _ ⟨he, hm⟩ => ⟨he, n, hm.symm⟩
theorem Valid_yes (y m d : Int) (w : World) (h : OkD 2 y m d) :
    Calls Tryz.prog 202 #[.agg #[.int .i64 y, .int .i64 m, .int .i64 d]] w fun e w' => e = .returned (.bool true) ∧ Kept w w' := by
  obtain ⟨h1, h2, h3, h4, h5, h6⟩ := h
  have hb := mlen_bounds (lp 2 y) m h3 h4
  have hd : decide (d ≤ mlen (lp 2 y) m) = true := by simp; omega
  go_enter Tryz.func202, Tryz.ntmps202
  go_wp2_with fail
  go_quiet ((first | (go_at_call 157; exact quiet_left (inR_yes _ _ h1 h2)) | (go_at_call 203; exact quiet_left (Length_any _ _ _))))
  go_wp2_with fail
  go_ret
  exact ⟨rfl, (by repeat (first | with_reducible exact Kept.refl _ | with_reducible assumption | with_reducible refine Kept.drew ?_ | with_reducible refine Kept.drewN ?_ _ | with_reducible refine Kept.alloc ?_ _ | (with_reducible refine Kept.setCell ?_ (by first | exact Nat.le_refl _ | omega | (simp; done) | (simp; omega)) _) | (with_reducible refine Kept.trans ?_ (by with_reducible assumption))))⟩
theorem Valid_no (y m d : Int) (w : World) (h : ¬ OkD 2 y m d) :
    Calls Tryz.prog 202 #[.agg #[.int .i64 y, .int .i64 m, .int .i64 d]] w fun e w' => e = .returned (.bool false) ∧ Kept w w' := by
  by_cases h1 : 1 ≤ y ∧ y ≤ 1000000000
  · obtain ⟨h1, h2⟩ := h1
    by_cases h5 : 1 ≤ d
    · have h6 : ¬ d ≤ mlen (lp 2 y) m := by
        intro h6
        refine h ⟨h1, h2, ?_, ?_, h5, h6⟩
        · by_cases g : m < 1
          · rw [mlen_out _ _ (.inl g)] at h6; omega
          · omega
        · by_cases g : 12 < m
          · rw [mlen_out _ _ (.inr g)] at h6; omega
          · omega
      have hd : decide (d ≤ mlen (lp 2 y) m) = false := by simp; omega
      go_enter Tryz.func202, Tryz.ntmps202
      go_wp2_with fail
      go_quiet ((first | (go_at_call 157; exact quiet_left (inR_yes _ _ h1 h2)) | (go_at_call 203; exact quiet_left (Length_any _ _ _))))
      go_wp2_with fail
      go_ret
      exact ⟨rfl, (by repeat (first | with_reducible exact Kept.refl _ | with_reducible assumption | with_reducible refine Kept.drew ?_ | with_reducible refine Kept.drewN ?_ _ | with_reducible refine Kept.alloc ?_ _ | (with_reducible refine Kept.setCell ?_ (by first | exact Nat.le_refl _ | omega | (simp; done) | (simp; omega)) _) | (with_reducible refine Kept.trans ?_ (by with_reducible assumption))))⟩
    · have hd : decide (1 ≤ d) = false := by simp; omega
      go_enter Tryz.func202, Tryz.ntmps202
      go_wp2_with fail
      go_quiet ((first | (go_at_call 157; exact quiet_left (inR_yes _ _ h1 h2)) | (go_at_call 203; exact quiet_left (Length_any _ _ _))))
      go_wp2_with fail
      go_ret
      exact ⟨rfl, (by repeat (first | with_reducible exact Kept.refl _ | with_reducible assumption | with_reducible refine Kept.drew ?_ | with_reducible refine Kept.drewN ?_ _ | with_reducible refine Kept.alloc ?_ _ | (with_reducible refine Kept.setCell ?_ (by first | exact Nat.le_refl _ | omega | (simp; done) | (simp; omega)) _) | (with_reducible refine Kept.trans ?_ (by with_reducible assumption))))⟩
  · go_enter Tryz.func202, Tryz.ntmps202
    go_wp2_with fail
    go_quiet ((first | (go_at_call 157; exact quiet_left (inR_no _ _ (by omega))) | (go_at_call 203; exact quiet_left (Length_any _ _ _))))
    go_wp2_with fail
    go_ret
    exact ⟨rfl, (by repeat (first | with_reducible exact Kept.refl _ | with_reducible assumption | with_reducible refine Kept.drew ?_ | with_reducible refine Kept.drewN ?_ _ | with_reducible refine Kept.alloc ?_ _ | (with_reducible refine Kept.setCell ?_ (by first | exact Nat.le_refl _ | omega | (simp; done) | (simp; omega)) _) | (with_reducible refine Kept.trans ?_ (by with_reducible assumption))))⟩

theorem ToDay_range (y m d : Int) (w : World) (h : y < 1 ∨ 1000000000 < y) :
    Calls Tryz.prog 148 #[.agg #[.int .i64 y, .int .i64 m, .int .i64 d]] w fun e w' => e = .returned (.tuple #[.int .i64 0, .int .i64 1]) ∧ Kept w w' := by
  go_enter Tryz.func148, Tryz.ntmps148
  go_wp2_with (first | (go_at_call 157; refine (inR_no _ _ (by omega)).mono ?_; rintro e w1 ⟨rfl, rfl⟩))
  go_ret2
  exact ⟨rfl, (by repeat (first | with_reducible exact Kept.refl _ | with_reducible assumption | with_reducible refine Kept.drew ?_ | with_reducible refine Kept.drewN ?_ _ | with_reducible refine Kept.alloc ?_ _ | (with_reducible refine Kept.setCell ?_ (by first | exact Nat.le_refl _ | omega | (simp; done) | (simp; omega)) _) | (with_reducible refine Kept.trans ?_ (by with_reducible assumption))))⟩
theorem ToDay_date (y m d : Int) (w : World) (h1 : 1 ≤ y) (h2 : y ≤ 1000000000) (h : ¬ OkD 2 y m d) :
    Calls Tryz.prog 148 #[.agg #[.int .i64 y, .int .i64 m, .int .i64 d]] w fun e w' => e = .returned (.tuple #[.int .i64 0, .int .i64 2]) ∧ Kept w w' := by
  go_enter Tryz.func148, Tryz.ntmps148
  go_wp2_with (first | (go_at_call 157; refine (inR_yes _ _ h1 h2).mono ?_; rintro e w1 ⟨rfl, rfl⟩) | (go_at_call 202; refine (Valid_no _ _ _ _ h).mono ?_; rintro e w1 ⟨rfl, hk1⟩))
  go_ret2
  exact ⟨rfl, (by repeat (first | with_reducible exact Kept.refl _ | with_reducible assumption | with_reducible refine Kept.drew ?_ | with_reducible refine Kept.drewN ?_ _ | with_reducible refine Kept.alloc ?_ _ | (with_reducible refine Kept.setCell ?_ (by first | exact Nat.le_refl _ | omega | (simp; done) | (simp; omega)) _) | (with_reducible refine Kept.trans ?_ (by with_reducible assumption))))⟩
theorem ToDay_ok (y m d : Int) (w : World) (h : OkD 2 y m d) :
    Calls Tryz.prog 148 #[.agg #[.int .i64 y, .int .i64 m, .int .i64 d]] w fun e w' => e = .returned (.tuple #[.int .i64 (num 2 y m d), .int .i64 0]) ∧ Kept w w' := by
  have hv := fun w => Valid_yes y m d w h
  have HV := Lib.hid hv
  obtain ⟨h1, h2, h3, h4, h5, h6⟩ := h
  have hb := mlen_bounds (lp 2 y) m h3 h4
  obtain ⟨hf1, hf2⟩ := fst_bounds 2 y h1 (by omega)
  have hc := cum_succ (lp 2 y)
  have HC := Lib.hid hc
  clear hv hc
  go_enter Tryz.func148, Tryz.ntmps148
  go_wp2_with fail
  (go_at_call 157; refine (inR_yes _ _ h1 h2).mono ?_; rintro e w1 ⟨rfl, rfl⟩)
  go_wp2_with fail
  (go_at_call 202; refine (HV.out _).mono ?_; rintro e w1 ⟨rfl, hk1⟩)
  have hB1_1 := hk1
  obtain ⟨hc1_1, hf1_1⟩ := kept_cells hB1_1
  have hz1_0_1 : w.heap.size < w1.heap.size := by have := hB1_1.size; simp at this; omega
  go_wp2_with fail
  go_quiet ((go_at_call 158; exact quiet_left (first_any _ _ (by omega) (by omega))))
  go_wp2_with fail
  have hk := Kept.drewN hB1_1 nq
  have HK := Lib.hid hk
  obtain ⟨hcX, hfX⟩ := kept_cells hk
  generalize w1.drewN nq = W at *
  clear hk hk1 hB1_1 hc1_1 hf1_1
  go_loop [4, 5] (fun t i => ∃ k : Int, 1 ≤ k ∧ k ≤ m ∧ i = .int .i64 k ∧ t = .int .i64 (fst 2 y + cum (lp 2 y) k + d - 1)) (fun _ i => (m - intOf i).toNat)
  case atStart => exact ⟨1, by omega, by omega, rfl, by rw [cum_1, Int.add_zero]⟩
  case round =>
    obtain ⟨k, hk1, hk2, rfl, rfl⟩ := hrel
    have cb := cum_bounds (lp 2 y) k hk1 (by omega)
    have mb := mlen_bounds (lp 2 y) k hk1 (by omega)
    by_cases hlt : k < m
    · go_wp2_with (go_at_call 203; refine (Length_any _ _ _).mono ?_; rintro e w1 ⟨rfl, rfl⟩)
      go_round
      case rel => exact ⟨k + 1, by omega, by omega, rfl, by rw [HC.out k hk1 (by omega)]; go_num⟩
      case measure => simp [intOf]; omega
    · go_wp2_with (go_at_call 203; refine (Length_any _ _ _).mono ?_; rintro e w1 ⟨rfl, rfl⟩)
      go_ret2
      exact ⟨by rw [show m = k from by omega]; rfl, Kept.trans (Kept.alloc (Kept.refl _) _) HK.out⟩
end Go.Proofs.YtblaphkaklocfaaGreatDoor
/- Contracts: package gregorian, the date of a number. -/
namespace Go.Proofs.YtblaphkaklocfaaGreatDoor
open Go.ChangeShapes Go.WideShapes Go.ChangeAt Go.RowKit
set_option maxHeartbeats 800000

theorem ix0 (w : World) : (Instr.index 291 (.agg #[.int .i64 400, .int .i64 146097, .int .i64 4611686018427387904, .int .i64 100, .int .i64 36524, .int .i64 3, .int .i64 4, .int .i64 1461, .int .i64 24, .int .i64 1, .int .i64 365, .int .i64 3]) (.int .i64 0)).run Tryz.prog w = .ok (.agg #[.int .i64 400, .int .i64 146097, .int .i64 4611686018427387904]) w := by kernel_rfl
theorem ix1 (w : World) : (Instr.index 291 (.agg #[.int .i64 400, .int .i64 146097, .int .i64 4611686018427387904, .int .i64 100, .int .i64 36524, .int .i64 3, .int .i64 4, .int .i64 1461, .int .i64 24, .int .i64 1, .int .i64 365, .int .i64 3]) (.int .i64 1)).run Tryz.prog w = .ok (.agg #[.int .i64 100, .int .i64 36524, .int .i64 3]) w := by kernel_rfl
theorem ix2 (w : World) : (Instr.index 291 (.agg #[.int .i64 400, .int .i64 146097, .int .i64 4611686018427387904, .int .i64 100, .int .i64 36524, .int .i64 3, .int .i64 4, .int .i64 1461, .int .i64 24, .int .i64 1, .int .i64 365, .int .i64 3]) (.int .i64 2)).run Tryz.prog w = .ok (.agg #[.int .i64 4, .int .i64 1461, .int .i64 24]) w := by kernel_rfl
theorem ix3 (w : World) : (Instr.index 291 (.agg #[.int .i64 400, .int .i64 146097, .int .i64 4611686018427387904, .int .i64 100, .int .i64 36524, .int .i64 3, .int .i64 4, .int .i64 1461, .int .i64 24, .int .i64 1, .int .i64 365, .int .i64 3]) (.int .i64 3)).run Tryz.prog w = .ok (.agg #[.int .i64 1, .int .i64 365, .int .i64 3]) w := by kernel_rfl
attribute [local go_sem] ix0 ix1 ix2 ix3
/-- What the loop over the lengths of 400, 100, 4 and 1 years has found, at its four heads and at its end. -/
def YRel (n : Int) (r o i : Int) : Prop :=
  (i = 0 ∧ r = n - 1 ∧ o = 1) ∨
  (i = 1 ∧ ∃ a, 0 ≤ a ∧ a ≤ 2500000 ∧ r = n - 1 - 146097 * a ∧ 0 ≤ r ∧ r < 146097 ∧ o = 1 + 400 * a) ∨
  (i = 2 ∧ ∃ a b, 0 ≤ a ∧ a ≤ 2500000 ∧ 0 ≤ b ∧ b ≤ 3 ∧ r = n - 1 - 146097 * a - 36524 * b ∧ 0 ≤ r ∧ r < 36525 ∧ (b < 3 → r < 36524) ∧ o = 1 + 400 * a + 100 * b) ∨
  (i = 3 ∧ ∃ a b c, 0 ≤ a ∧ a ≤ 2500000 ∧ 0 ≤ b ∧ b ≤ 3 ∧ 0 ≤ c ∧ c ≤ 24 ∧ r = n - 1 - 146097 * a - 36524 * b - 1461 * c ∧ 0 ≤ r ∧ r < 1461 ∧ (b < 3 → c = 24 → r < 1460) ∧ o = 1 + 400 * a + 100 * b + 4 * c) ∨
  (i = 4 ∧ ∃ a b c d, 0 ≤ a ∧ a ≤ 2500000 ∧ 0 ≤ b ∧ b ≤ 3 ∧ 0 ≤ c ∧ c ≤ 24 ∧ 0 ≤ d ∧ d ≤ 3 ∧ r = n - 1 - 146097 * a - 36524 * b - 1461 * c - 365 * d ∧ 0 ≤ r ∧ r < 366 ∧ (d < 3 → r < 365) ∧ (b < 3 → c = 24 → r < 365) ∧ o = 1 + 400 * a + 100 * b + 4 * c + d)
theorem YRel_end (n r o y : Int) (h : YRel n r o 4) (h1 : fst 2 y ≤ n) (h2 : n < fst 2 (y + 1)) : o = y := by
  unfold YRel at h
  rcases h with ⟨h, _⟩ | ⟨h, _⟩ | ⟨h, _⟩ | ⟨h, _⟩ | ⟨_, a, b, c, d, a1, a2, b1, b2, c1, c2, d1, d2, e1, e2, e3, e4, e5, rfl⟩
  · omega
  · omega
  · omega
  · omega
  · have e : fst 2 (1 + 400 * a + 100 * b + 4 * c + d) = 1 + 146097 * a + 36524 * b + 1461 * c + 365 * d := by
      unfold fst; simp only [show ¬ (2 : Int) = 1 from by decide, if_false]; omega
    have g : (0 : Int) ≤ if lp 2 (1 + 400 * a + 100 * b + 4 * c + d) then 1 else 0 := by split <;> omega
    have g2 : r = 365 → (if lp 2 (1 + 400 * a + 100 * b + 4 * c + d) then (1 : Int) else 0) = 1 := by
      intro hr
      obtain rfl : d = 3 := by omega
      rw [if_pos]
      rw [lp_true, decide_eq_true_iff]
      by_cases hc : c = 24
      · have : b = 3 := by omega
        omega
      · omega
    have f := fst_succ 2 (1 + 400 * a + 100 * b + 4 * c + d)
    exact year_unique 2 n _ y (by omega) (by rw [f]; omega) h1 h2
theorem YRel_0 (n : Int) (h1 : 1 ≤ n) (h2 : n < 365242500001) : YRel n (n - 1 - (n - 1) / 146097 * 146097) (1 + (n - 1) / 146097 * 400) 1 :=
  .inr (.inl ⟨rfl, (n - 1) / 146097, by omega, by omega, by omega, by omega, by omega, by omega⟩)
theorem YRel_1 (n r a : Int) (a1 : 0 ≤ a) (a2 : a ≤ 2500000) (e1 : r = n - 1 - 146097 * a) (e2 : 0 ≤ r) (e3 : r < 146097) :
    YRel n (r - (if 3 < r / 36524 then 3 else r / 36524) * 36524) (1 + 400 * a + (if 3 < r / 36524 then 3 else r / 36524) * 100) 2 := by
  refine .inr (.inr (.inl ⟨rfl, a, if 3 < r / 36524 then 3 else r / 36524, a1, a2, ?_⟩))
  split <;> (refine ⟨?_, ?_, ?_, ?_, ?_, ?_, ?_⟩ <;> omega)
theorem YRel_2 (n r a b : Int) (a1 : 0 ≤ a) (a2 : a ≤ 2500000) (b1 : 0 ≤ b) (b2 : b ≤ 3) (e1 : r = n - 1 - 146097 * a - 36524 * b) (e2 : 0 ≤ r) (e3 : r < 36525) (e4 : b < 3 → r < 36524) :
    YRel n (r - r / 1461 * 1461) (1 + 400 * a + 100 * b + r / 1461 * 4) 3 := by
  refine .inr (.inr (.inr (.inl ⟨rfl, a, b, r / 1461, a1, a2, b1, b2, ?_⟩)))
  refine ⟨?_, ?_, ?_, ?_, ?_, ?_, ?_⟩ <;> omega
theorem YRel_3 (n r a b c : Int) (a1 : 0 ≤ a) (a2 : a ≤ 2500000) (b1 : 0 ≤ b) (b2 : b ≤ 3) (c1 : 0 ≤ c) (c2 : c ≤ 24) (e1 : r = n - 1 - 146097 * a - 36524 * b - 1461 * c) (e2 : 0 ≤ r) (e3 : r < 1461) (e4 : b < 3 → c = 24 → r < 1460) :
    YRel n (r - (if 3 < r / 365 then 3 else r / 365) * 365) (1 + 400 * a + 100 * b + 4 * c + (if 3 < r / 365 then 3 else r / 365)) 4 := by
  refine .inr (.inr (.inr (.inr ⟨rfl, a, b, c, if 3 < r / 365 then 3 else r / 365, a1, a2, b1, b2, c1, c2, ?_⟩)))
  split <;> (refine ⟨?_, ?_, ?_, ?_, ?_, ?_, ?_, ?_⟩ <;> omega)
theorem year_any (n y : Int) (w : World) (h1 : 1 ≤ n) (h2 : n < 365242500001) (h3 : fst 2 y ≤ n) (h4 : n < fst 2 (y + 1)) :
    Calls Tryz.prog 204 #[.int .i64 n] w fun e w' => e = .returned (.int .i64 y) ∧ Kept w w' := by
  have HE := Lib.hid (fun r o h => YRel_end n r o y h h3 h4)
  clear h3 h4
  go_enter Tryz.func204, Tryz.ntmps204
  go_wp2
  go_loopw [3, 4, 7, 8, 16] (fun rv ov q s iv wr => Kept w wr ∧ ∃ r o i : Int, YRel n r o i ∧ rv = .int .i64 r ∧ ov = .int .i64 o ∧ iv = .int .i64 i) (fun r o q s i _ => (4 - intOf i).toNat)
  case atStart => exact ⟨Kept.refl _, _, _, _, .inl ⟨rfl, rfl, rfl⟩, rfl, rfl, rfl⟩
  case round =>
    obtain ⟨hK, r, o, i, hY, rfl, rfl, rfl⟩ := hrel
    have HY := Lib.hid hY
    unfold YRel at hY
    rcases hY with ⟨rfl, rfl, rfl⟩ | ⟨rfl, a, a1, a2, e1, e2, e3, rfl⟩ | ⟨rfl, a, b, a1, a2, b1, b2, e1, e2, e3, e4, rfl⟩ | ⟨rfl, a, b, c, a1, a2, b1, b2, c1, c2, e1, e2, e3, e4, rfl⟩ | ⟨rfl, _⟩
    · clear HY
      go_wp2_with (go_at_call 201; refine (IDiv_any _ _ _ (by omega) (by omega) (by omega) (by omega)).mono ?_; rintro e w1 ⟨rfl, rfl⟩)
      go_roundw
      case rel => exact ⟨(by repeat (first | with_reducible exact Kept.refl _ | with_reducible assumption | with_reducible refine Kept.drew ?_ | with_reducible refine Kept.drewN ?_ _ | with_reducible refine Kept.alloc ?_ _ | (with_reducible refine Kept.setCell ?_ (by first | exact Nat.le_refl _ | omega | (simp; done) | (simp; omega)) _) | (with_reducible refine Kept.trans ?_ (by with_reducible assumption)))), _, _, _, YRel_0 n h1 h2, rfl, rfl, rfl⟩
      case measure => simp [intOf]
    · clear HY
      have E1 := Lib.hid e1
      clear e1
      go_wp2_with (go_at_call 201; refine (IDiv_any _ _ _ (by omega) (by omega) (by omega) (by omega)).mono ?_; rintro e w1 ⟨rfl, rfl⟩)
      go_roundw
      case rel => exact ⟨(by repeat (first | with_reducible exact Kept.refl _ | with_reducible assumption | with_reducible refine Kept.drew ?_ | with_reducible refine Kept.drewN ?_ _ | with_reducible refine Kept.alloc ?_ _ | (with_reducible refine Kept.setCell ?_ (by first | exact Nat.le_refl _ | omega | (simp; done) | (simp; omega)) _) | (with_reducible refine Kept.trans ?_ (by with_reducible assumption)))), _, _, _, YRel_1 n r a a1 a2 E1.out e2 e3, rfl, rfl, rfl⟩
      case measure => simp [intOf]
    · clear HY
      have E1 := Lib.hid e1
      have E4 := Lib.hid e4
      clear e1 e4
      go_wp2_with (go_at_call 201; refine (IDiv_any _ _ _ (by omega) (by omega) (by omega) (by omega)).mono ?_; rintro e w1 ⟨rfl, rfl⟩)
      go_roundw
      case rel => exact ⟨(by repeat (first | with_reducible exact Kept.refl _ | with_reducible assumption | with_reducible refine Kept.drew ?_ | with_reducible refine Kept.drewN ?_ _ | with_reducible refine Kept.alloc ?_ _ | (with_reducible refine Kept.setCell ?_ (by first | exact Nat.le_refl _ | omega | (simp; done) | (simp; omega)) _) | (with_reducible refine Kept.trans ?_ (by with_reducible assumption)))), _, _, _, YRel_2 n r a b a1 a2 b1 b2 E1.out e2 e3 E4.out, rfl, rfl, rfl⟩
      case measure => simp [intOf]
    · clear HY
      have E1 := Lib.hid e1
      have E4 := Lib.hid e4
      clear e1 e4
      go_wp2_with (go_at_call 201; refine (IDiv_any _ _ _ (by omega) (by omega) (by omega) (by omega)).mono ?_; rintro e w1 ⟨rfl, rfl⟩)
      go_roundw
      case rel => exact ⟨(by repeat (first | with_reducible exact Kept.refl _ | with_reducible assumption | with_reducible refine Kept.drew ?_ | with_reducible refine Kept.drewN ?_ _ | with_reducible refine Kept.alloc ?_ _ | (with_reducible refine Kept.setCell ?_ (by first | exact Nat.le_refl _ | omega | (simp; done) | (simp; omega)) _) | (with_reducible refine Kept.trans ?_ (by with_reducible assumption)))), _, _, _, YRel_3 n r a b c a1 a2 b1 b2 c1 c2 E1.out e2 e3 E4.out, rfl, rfl, rfl⟩
      case measure => simp [intOf]
    · go_wp2
      go_ret
      exact ⟨ret_int (HE.out _ _ HY.out), hK⟩

theorem FromDay_no (n : Int) (w : World) (h : n < 1 ∨ 365242500001 ≤ n) :
    Calls Tryz.prog 149 #[.int .i64 n] w fun e w' => e = .returned (.tuple #[.agg #[.int .i64 0, .int .i64 0, .int .i64 0], .int .i64 1]) ∧ Kept w w' := by
  have F1 := fun w => first_any 1 w (by omega) (by omega)
  have F2 := fun w => first_any 1000000001 w (by omega) (by omega)
  rw [fst_one, if_neg (by decide)] at F1
  rw [fst_top, if_neg (by decide)] at F2
  have K1 := Lib.hid F1
  have K2 := Lib.hid F2
  clear F1 F2
  rcases h with h | h
  · go_enter Tryz.func149, Tryz.ntmps149
    go_wp2_with (first | (go_at_call 158; (with_reducible refine (K1.out _).mono ?_); rintro e w1 ⟨rfl, rfl⟩) | (go_at_call 158; (with_reducible refine (K2.out _).mono ?_); rintro e w1 ⟨rfl, rfl⟩))
    exact bodyPost_ret (v := .tuple #[.agg #[.int .i64 0, .int .i64 0, .int .i64 0], .int .i64 1]) (by simp [results, Tryz.results149, go_sem, *]) rfl ⟨rfl, (by repeat (first | with_reducible exact Kept.refl _ | with_reducible assumption | with_reducible refine Kept.drew ?_ | with_reducible refine Kept.drewN ?_ _ | with_reducible refine Kept.alloc ?_ _ | (with_reducible refine Kept.setCell ?_ (by first | exact Nat.le_refl _ | omega | (simp; done) | (simp; omega)) _) | (with_reducible refine Kept.trans ?_ (by with_reducible assumption))))⟩
  · have h' : 1 ≤ n := by omega
    go_enter Tryz.func149, Tryz.ntmps149
    go_wp2_with (first | (go_at_call 158; (with_reducible refine (K1.out _).mono ?_); rintro e w1 ⟨rfl, rfl⟩) | (go_at_call 158; (with_reducible refine (K2.out _).mono ?_); rintro e w1 ⟨rfl, rfl⟩))
    exact bodyPost_ret (v := .tuple #[.agg #[.int .i64 0, .int .i64 0, .int .i64 0], .int .i64 1]) (by simp [results, Tryz.results149, go_sem, *]) rfl ⟨rfl, (by repeat (first | with_reducible exact Kept.refl _ | with_reducible assumption | with_reducible refine Kept.drew ?_ | with_reducible refine Kept.drewN ?_ _ | with_reducible refine Kept.alloc ?_ _ | (with_reducible refine Kept.setCell ?_ (by first | exact Nat.le_refl _ | omega | (simp; done) | (simp; omega)) _) | (with_reducible refine Kept.trans ?_ (by with_reducible assumption))))⟩
theorem FromDay_ok (n y m d : Int) (w : World) (h : OkD 2 y m d) (e : num 2 y m d = n) :
    Calls Tryz.prog 149 #[.int .i64 n] w fun e w' => e = .returned (.tuple #[.agg #[.int .i64 y, .int .i64 m, .int .i64 d], .int .i64 0]) ∧ Kept w w' := by
  have F1 := fun w => first_any 1 w (by omega) (by omega)
  have F2 := fun w => first_any 1000000001 w (by omega) (by omega)
  rw [fst_one, if_neg (by decide)] at F1
  rw [fst_top, if_neg (by decide)] at F2
  have K1 := Lib.hid F1
  have K2 := Lib.hid F2
  clear F1 F2
  have hy := num_year 2 y m d h
  have hn := num_bounds 2 y m d h
  rw [fst_one, fst_top, if_neg (by decide), if_neg (by decide), e] at hn
  rw [e] at hy
  have HY := fun w => year_any n y w hn.1 hn.2 hy.1 hy.2
  have KY := Lib.hid HY
  clear HY
  obtain ⟨hn1, hn2⟩ := hn
  obtain ⟨h1, h2, h3, h4, h5, h6⟩ := h
  have KC := Lib.hid (cum_succ (lp 2 y))
  have KM := Lib.hid (cum_mono (lp 2 y))
  obtain ⟨hf1, hf2⟩ := fst_bounds 2 y h1 (by omega)
  have hb := mlen_bounds (lp 2 y) m h3 h4
  have hcm := cum_bounds (lp 2 y) m h3 (by omega)
  have HE : Hid (n = fst 2 y + cum (lp 2 y) m + d - 1) := e.symm
  clear e hy
  go_enter Tryz.func149, Tryz.ntmps149
  go_wp2_with fail
  (go_at_call 158; refine (K1.out _).mono ?_; rintro e w1 ⟨rfl, rfl⟩)
  go_wp2_with fail
  (go_at_call 158; refine (K2.out _).mono ?_; rintro e w1 ⟨rfl, rfl⟩)
  go_wp2_with fail
  (go_at_call 204; refine (KY.out _).mono ?_; rintro e w1 ⟨rfl, hk1⟩)
  have hB1_1 := hk1
  obtain ⟨hc1_1, hf1_1⟩ := kept_cells hB1_1
  have hz1_0_1 : w.heap.size < w1.heap.size := by have := hB1_1.size; simp at this; omega
  go_wp2_with fail
  (go_at_call 158; refine (first_any _ _ h1 (by omega)).mono ?_; rintro e w1 ⟨rfl, rfl⟩)
  rw [HE.out, show fst 2 y + cum (lp 2 y) m + d - 1 = fst 2 y + (cum (lp 2 y) m + d - 1) from by omega]
  go_wp2_with fail
  go_loopw [5] (fun t wr => ∃ k : Int, 1 ≤ k ∧ k ≤ m ∧ t = .int .i64 (cum (lp 2 y) m + d - 1 - cum (lp 2 y) k) ∧ wr = w1.alloc (.cells #[.int .i64 y, .int .i64 k, .int .i64 0] 29)) (fun t _ => (intOf t).toNat)
  case atStart => exact ⟨1, by omega, by omega, by rw [cum_1]; go_num, rfl⟩
  case round =>
    obtain ⟨k, hk1, hk2, rfl, rfl⟩ := hrel
    have cb := cum_bounds (lp 2 y) k hk1 (by omega)
    have mb := mlen_bounds (lp 2 y) k hk1 (by omega)
    by_cases hlt : k < m
    · have mm := KM.out k m hk1 hlt (by omega)
      go_wp2_with (go_at_call 203; refine (Length_any _ _ _).mono ?_; rintro e w1 ⟨rfl, rfl⟩)
      go_roundw
      case rel => exact ⟨k + 1, by omega, by omega, by rw [KC.out k hk1 (by omega)]; go_num, rfl⟩
      case measure => simp [intOf]; omega
    · have hk : k = m := by omega
      subst hk
      clear hlt hk1 hk2
      go_wp2_with (go_at_call 203; refine (Length_any _ _ _).mono ?_; rintro e w1 ⟨rfl, rfl⟩)
      exact bodyPost_ret (v := .tuple #[.agg #[.int .i64 y, .int .i64 k, .int .i64 (cum (lp 2 y) k + d - 1 - cum (lp 2 y) k + 1)], .int .i64 0]) (by simp [results, Tryz.results149, go_sem, *]) rfl ⟨by rw [show cum (lp 2 y) k + d - 1 - cum (lp 2 y) k + 1 = d from by omega], (by repeat (first | with_reducible exact Kept.refl _ | with_reducible assumption | with_reducible refine Kept.drew ?_ | with_reducible refine Kept.drewN ?_ _ | with_reducible refine Kept.alloc ?_ _ | (with_reducible refine Kept.setCell ?_ (by first | exact Nat.le_refl _ | omega | (simp; done) | (simp; omega)) _) | (with_reducible refine Kept.trans ?_ (by with_reducible assumption))))⟩
end Go.Proofs.YtblaphkaklocfaaGreatDoor
/- Contracts: package julian. -/
namespace Go.Proofs.YtblaphkaklocfaaGreatDoor
open Go.ChangeShapes Go.WideShapes Go.ChangeAt Go.RowKit
set_option maxHeartbeats 800000

theorem lt_cell {w : World} {k o : Nat} {v : Value} (h : w.cell? ⟨k, o, none⟩ = some v) : k < w.heap.size := by
  by_cases hk : k < w.heap.size
  · exact hk
  · have : w.heap[k]? = none := by simp; omega
    simp [World.cell?, this] at h

/-- The table of the lengths of the months lies as the program's text lays it. -/
def Tab (w : World) : Prop := ∀ m : Int, 1 ≤ m → m ≤ 12 → w.cell? ⟨4, (m - 1).toNat, none⟩ = some (.int .i64 (mlen false m))
theorem Tab.kept {w w' : World} (h : Tab w) (k : Kept w w') : Tab w' := fun m h1 h2 => by
  have := h m h1 h2
  rw [k.cell _ _ (lt_cell this)]
  exact this
theorem Tab.drewN {w : World} (h : Tab w) (n : Nat) : Tab (w.drewN n) := h
theorem Tab.drew {w : World} (h : Tab w) : Tab w.drew := h
theorem Tab.alloc {w : World} (h : Tab w) (o : Obj) : Tab (w.alloc o) := h.kept (Kept.alloc (Kept.refl _) _)

theorem JLeap_any (y : Int) (w : World) :
    Calls Tryz.prog 147 #[.int .i64 y] w fun e w' => e = .returned (.bool (lp 1 y)) ∧ w = w' := by
  have HL := Lib.hid (show lp 1 y = decide (y % 4 = 0) from rfl)
  have H4 := Lib.hid (tmod_zero y 4 (by omega))
  by_cases h : 0 ≤ y
  · go_enter Tryz.func147, Tryz.ntmps147
    go_wp2
    all_goals go_ret
    all_goals refine ⟨ret_bool ?_, rfl⟩
    all_goals rw [HL.out, Bool.eq_iff_iff]
    all_goals simp
  · go_enter Tryz.func147, Tryz.ntmps147
    go_wp2
    all_goals go_ret
    all_goals refine ⟨ret_bool ?_, rfl⟩
    all_goals rw [HL.out, Bool.eq_iff_iff]
    all_goals have a4 := H4.out
    all_goals simp [a4, *]
theorem JLength_out (y m : Int) (w : World) (h : m < 1 ∨ 12 < m) :
    Calls Tryz.prog 200 #[.int .i64 y, .int .i64 m] w fun e w' => e = .returned (.int .i64 0) ∧ w = w' := by
  rcases h with h | h
  all_goals
    go_enter Tryz.func200, Tryz.ntmps200
    go_wp2
    go_ret
    exact ⟨rfl, rfl⟩
theorem JLength_in (y m : Int) (w : World) (hT : Tab w) (h : 1 ≤ m) (h' : m ≤ 12) :
    Calls Tryz.prog 200 #[.int .i64 y, .int .i64 m] w fun e w' => e = .returned (.int .i64 (mlen (lp 1 y) m)) ∧ w = w' := by
  have hc : w.cell? ⟨4, m.toNat - 1, none⟩ = some (.int .i64 (mlen false m)) := by
    have := hT m h h'
    rwa [show (m - 1).toNat = m.toNat - 1 from by omega] at this
  clear hT
  by_cases h2 : m = 2
  · subst h2
    have hc2 : w.cell? ⟨4, 1, none⟩ = some (.int .i64 28) := hc
    clear hc
    cases hl : lp 1 y
    · have KL := Lib.hid (fun w => JLeap_any y w)
      rw [hl] at KL
      clear hl
      go_enter Tryz.func200, Tryz.ntmps200
      go_wp2_with (go_at_call 147; (with_reducible refine (KL.out _).mono ?_); rintro e w1 ⟨rfl, rfl⟩)
      go_ret
      exact ⟨rfl, rfl⟩
    · have KL := Lib.hid (fun w => JLeap_any y w)
      rw [hl] at KL
      clear hl
      go_enter Tryz.func200, Tryz.ntmps200
      go_wp2_with (go_at_call 147; (with_reducible refine (KL.out _).mono ?_); rintro e w1 ⟨rfl, rfl⟩)
      go_ret
      exact ⟨rfl, rfl⟩
  · have hm : mlen (lp 1 y) m = mlen false m := by
      unfold mlen
      split
      · rfl
      · simp [h2]
    have HM := Lib.hid hm
    have h3 : (m == 2) = false := by simpa using h2
    clear hm h2
    go_enter Tryz.func200, Tryz.ntmps200
    go_wp2_with (go_at_call 147; (with_reducible refine (JLeap_any _ _).mono ?_); rintro e w1 ⟨rfl, rfl⟩)
    go_ret
    exact ⟨by rw [HM.out]; rfl, rfl⟩
theorem JLength_any (y m : Int) (w : World) (hT : Tab w) :
    Calls Tryz.prog 200 #[.int .i64 y, .int .i64 m] w fun e w' => e = .returned (.int .i64 (mlen (lp 1 y) m)) ∧ w = w' := by
  by_cases h : m < 1 ∨ 12 < m
  · rw [mlen_out _ _ h]; exact JLength_out y m w h
  · exact JLength_in y m w hT (by omega) (by omega)
theorem JinR_yes (y : Int) (w : World) (h : 1 ≤ y) (h' : y ≤ 1000000000) :
    Calls Tryz.prog 197 #[.int .i64 y] w fun e w' => e = .returned (.bool true) ∧ w = w' := by
  have h3 : decide (y ≤ 1000000000) = true := by simp; omega
  go_enter Tryz.func197, Tryz.ntmps197
  go_wp2
  go_ret
  exact ⟨by first | rfl | (simp; done) | (simp; omega), rfl⟩
theorem JinR_no (y : Int) (w : World) (h : y < 1 ∨ 1000000000 < y) :
    Calls Tryz.prog 197 #[.int .i64 y] w fun e w' => e = .returned (.bool false) ∧ w = w' := by
  go_enter Tryz.func197, Tryz.ntmps197
  go_wp2
  all_goals go_ret
  all_goals exact ⟨by first | rfl | (simp; done) | (simp; omega), rfl⟩
theorem Jfirst_any (y : Int) (w : World) (h : 1 ≤ y) (h' : y ≤ 1000000001) :
    Calls Tryz.prog 199 #[.int .i64 y] w fun e w' => e = .returned (.int .i64 (fst 1 y)) ∧ w.drew = w' := by
  have HF := Lib.hid (show fst 1 y = -1 + 365 * (y - 1) + (y - 1) / 4 from by unfold fst; simp only [if_true]; omega)
  go_enter Tryz.func199, Tryz.ntmps199
  go_wp2_with (go_at_call 201; refine (IDiv_any _ _ _ (by omega) (by omega) (by omega) (by omega)).mono ?_; rintro e w1 ⟨rfl, rfl⟩)
  go_ret
  exact ⟨by rw [HF.out]; rfl, rfl⟩
theorem JFirst_ok (y : Int) (w : World) (h : 1 ≤ y) (h' : y ≤ 1000000000) :
    Calls Tryz.prog 146 #[.int .i64 y] w fun e w' => e = .returned (.tuple #[.int .i64 (fst 1 y), .int .i64 0]) ∧ w.drew = w' := by
  go_enter Tryz.func146, Tryz.ntmps146
  go_wp2_with (first | (go_at_call 197; refine (JinR_yes _ _ h h').mono ?_; rintro e w1 ⟨rfl, rfl⟩) | (go_at_call 199; refine (Jfirst_any _ _ (by omega) (by omega)).mono ?_; rintro e w1 ⟨rfl, rfl⟩))
  go_ret2
  exact ⟨rfl, rfl⟩
theorem JFirst_no (y : Int) (w : World) (h : y < 1 ∨ 1000000000 < y) :
    Calls Tryz.prog 146 #[.int .i64 y] w fun e w' => e = .returned (.tuple #[.int .i64 0, .int .i64 1]) ∧ w = w' := by
  go_enter Tryz.func146, Tryz.ntmps146
  go_wp2_with (first | (go_at_call 197; refine (JinR_no _ _ h).mono ?_; rintro e w1 ⟨rfl, rfl⟩))
  go_ret2
  exact ⟨rfl, rfl⟩

theorem JValid_yes (y m d : Int) (w : World) (hT : Tab w) (h : OkD 1 y m d) :
    Calls Tryz.prog 198 #[.agg #[.int .i64 y, .int .i64 m, .int .i64 d]] w fun e w' => e = .returned (.bool true) ∧ Kept w w' := by
  have KT := Lib.hid (fun o n => Tab.drewN (hT.alloc o) n)
  obtain ⟨h1, h2, h3, h4, h5, h6⟩ := h
  have hb := mlen_bounds (lp 1 y) m h3 h4
  have hd : decide (d ≤ mlen (lp 1 y) m) = true := by simp; omega
  clear hT
  go_enter Tryz.func198, Tryz.ntmps198
  go_wp2_with fail
  go_quiet ((first | (go_at_call 197; exact quiet_left (JinR_yes _ _ h1 h2)) | (go_at_call 200; exact quiet_left (JLength_any _ _ _ (KT.out _ _)))))
  go_wp2_with fail
  go_ret
  exact ⟨rfl, (by repeat (first | with_reducible exact Kept.refl _ | with_reducible assumption | with_reducible refine Kept.drew ?_ | with_reducible refine Kept.drewN ?_ _ | with_reducible refine Kept.alloc ?_ _ | (with_reducible refine Kept.setCell ?_ (by first | exact Nat.le_refl _ | omega | (simp; done) | (simp; omega)) _) | (with_reducible refine Kept.trans ?_ (by with_reducible assumption))))⟩
theorem JValid_no (y m d : Int) (w : World) (hT : Tab w) (h : ¬ OkD 1 y m d) :
    Calls Tryz.prog 198 #[.agg #[.int .i64 y, .int .i64 m, .int .i64 d]] w fun e w' => e = .returned (.bool false) ∧ Kept w w' := by
  have KT := Lib.hid (fun o n => Tab.drewN (hT.alloc o) n)
  clear hT
  by_cases h1 : 1 ≤ y ∧ y ≤ 1000000000
  · obtain ⟨h1, h2⟩ := h1
    by_cases h5 : 1 ≤ d
    · have h6 : ¬ d ≤ mlen (lp 1 y) m := by
        intro h6
        refine h ⟨h1, h2, ?_, ?_, h5, h6⟩
        · by_cases g : m < 1
          · rw [mlen_out _ _ (.inl g)] at h6; omega
          · omega
        · by_cases g : 12 < m
          · rw [mlen_out _ _ (.inr g)] at h6; omega
          · omega
      have hd : decide (d ≤ mlen (lp 1 y) m) = false := by simp; omega
      go_enter Tryz.func198, Tryz.ntmps198
      go_wp2_with fail
      go_quiet ((first | (go_at_call 197; exact quiet_left (JinR_yes _ _ h1 h2)) | (go_at_call 200; exact quiet_left (JLength_any _ _ _ (KT.out _ _)))))
      go_wp2_with fail
      go_ret
      exact ⟨rfl, (by repeat (first | with_reducible exact Kept.refl _ | with_reducible assumption | with_reducible refine Kept.drew ?_ | with_reducible refine Kept.drewN ?_ _ | with_reducible refine Kept.alloc ?_ _ | (with_reducible refine Kept.setCell ?_ (by first | exact Nat.le_refl _ | omega | (simp; done) | (simp; omega)) _) | (with_reducible refine Kept.trans ?_ (by with_reducible assumption))))⟩
    · have hd : decide (1 ≤ d) = false := by simp; omega
      go_enter Tryz.func198, Tryz.ntmps198
      go_wp2_with fail
      go_quiet ((first | (go_at_call 197; exact quiet_left (JinR_yes _ _ h1 h2)) | (go_at_call 200; exact quiet_left (JLength_any _ _ _ (KT.out _ _)))))
      go_wp2_with fail
      go_ret
      exact ⟨rfl, (by repeat (first | with_reducible exact Kept.refl _ | with_reducible assumption | with_reducible refine Kept.drew ?_ | with_reducible refine Kept.drewN ?_ _ | with_reducible refine Kept.alloc ?_ _ | (with_reducible refine Kept.setCell ?_ (by first | exact Nat.le_refl _ | omega | (simp; done) | (simp; omega)) _) | (with_reducible refine Kept.trans ?_ (by with_reducible assumption))))⟩
  · go_enter Tryz.func198, Tryz.ntmps198
    go_wp2_with fail
    go_quiet ((first | (go_at_call 197; exact quiet_left (JinR_no _ _ (by omega))) | (go_at_call 200; exact quiet_left (JLength_any _ _ _ (KT.out _ _)))))
    go_wp2_with fail
    go_ret
    exact ⟨rfl, (by repeat (first | with_reducible exact Kept.refl _ | with_reducible assumption | with_reducible refine Kept.drew ?_ | with_reducible refine Kept.drewN ?_ _ | with_reducible refine Kept.alloc ?_ _ | (with_reducible refine Kept.setCell ?_ (by first | exact Nat.le_refl _ | omega | (simp; done) | (simp; omega)) _) | (with_reducible refine Kept.trans ?_ (by with_reducible assumption))))⟩

theorem JToDay_range (y m d : Int) (w : World) (h : y < 1 ∨ 1000000000 < y) :
    Calls Tryz.prog 144 #[.agg #[.int .i64 y, .int .i64 m, .int .i64 d]] w fun e w' => e = .returned (.tuple #[.int .i64 0, .int .i64 1]) ∧ Kept w w' := by
  go_enter Tryz.func144, Tryz.ntmps144
  go_wp2_with (first | (go_at_call 197; refine (JinR_no _ _ (by omega)).mono ?_; rintro e w1 ⟨rfl, rfl⟩))
  go_ret2
  exact ⟨rfl, (by repeat (first | with_reducible exact Kept.refl _ | with_reducible assumption | with_reducible refine Kept.drew ?_ | with_reducible refine Kept.drewN ?_ _ | with_reducible refine Kept.alloc ?_ _ | (with_reducible refine Kept.setCell ?_ (by first | exact Nat.le_refl _ | omega | (simp; done) | (simp; omega)) _) | (with_reducible refine Kept.trans ?_ (by with_reducible assumption))))⟩
theorem JToDay_date (y m d : Int) (w : World) (hT : Tab w) (h1 : 1 ≤ y) (h2 : y ≤ 1000000000) (h : ¬ OkD 1 y m d) :
    Calls Tryz.prog 144 #[.agg #[.int .i64 y, .int .i64 m, .int .i64 d]] w fun e w' => e = .returned (.tuple #[.int .i64 0, .int .i64 2]) ∧ Kept w w' := by
  have KT := Lib.hid (fun o => hT.alloc o)
  clear hT
  go_enter Tryz.func144, Tryz.ntmps144
  go_wp2_with (first | (go_at_call 197; refine (JinR_yes _ _ h1 h2).mono ?_; rintro e w1 ⟨rfl, rfl⟩) | (go_at_call 198; refine (JValid_no _ _ _ _ (KT.out _) h).mono ?_; rintro e w1 ⟨rfl, hk1⟩))
  go_ret2
  exact ⟨rfl, (by repeat (first | with_reducible exact Kept.refl _ | with_reducible assumption | with_reducible refine Kept.drew ?_ | with_reducible refine Kept.drewN ?_ _ | with_reducible refine Kept.alloc ?_ _ | (with_reducible refine Kept.setCell ?_ (by first | exact Nat.le_refl _ | omega | (simp; done) | (simp; omega)) _) | (with_reducible refine Kept.trans ?_ (by with_reducible assumption))))⟩
theorem quiet_drew {P : Program} {f : FuncId} {args : Array Value} {w : World} {n : Nat} {v : Value}
    (h : Calls P f args (w.drewN n) fun e w' => e = .returned v ∧ (w.drewN n).drew = w') : Calls P f args (w.drewN n) fun e w'' => e = .returned v ∧ ∃ m, w'' = w.drewN m :=
  h.mono fun _ _ ⟨he, hm⟩ => ⟨he, n + 1, hm.symm⟩
theorem JToDay_ok (y m d : Int) (w : World) (hT : Tab w) (h : OkD 1 y m d) :
    Calls Tryz.prog 144 #[.agg #[.int .i64 y, .int .i64 m, .int .i64 d]] w fun e w' => e = .returned (.tuple #[.int .i64 (num 1 y m d), .int .i64 0]) ∧ Kept w w' := by
  have HV := Lib.hid (fun o => JValid_yes y m d (w.alloc o) (hT.alloc o) h)
  have KT := Lib.hid (fun o => hT.alloc o)
  clear hT
  obtain ⟨h1, h2, h3, h4, h5, h6⟩ := h
  have hb := mlen_bounds (lp 1 y) m h3 h4
  obtain ⟨hf1, hf2⟩ := fst_bounds 1 y h1 (by omega)
  have HC := Lib.hid (cum_succ (lp 1 y))
  go_enter Tryz.func144, Tryz.ntmps144
  go_wp2_with fail
  (go_at_call 197; refine (JinR_yes _ _ h1 h2).mono ?_; rintro e w1 ⟨rfl, rfl⟩)
  go_wp2_with fail
  (go_at_call 198; refine (HV.out _).mono ?_; rintro e w1 ⟨rfl, hk1⟩)
  have hB1_1 := hk1
  obtain ⟨hc1_1, hf1_1⟩ := kept_cells hB1_1
  have hz1_0_1 : w.heap.size < w1.heap.size := by have := hB1_1.size; simp at this; omega
  go_wp2_with fail
  go_quiet ((go_at_call 199; exact quiet_drew (Jfirst_any _ _ (by omega) (by omega))))
  go_wp2_with fail
  have hk := Kept.drewN hB1_1 nq
  have HT := Lib.hid ((KT.out _).kept hk)
  have HK := Lib.hid hk
  obtain ⟨hcX, hfX⟩ := kept_cells hk
  generalize w1.drewN nq = W at *
  clear hk hk1 hB1_1 hc1_1 hf1_1
  go_loop [4, 5] (fun t i => ∃ k : Int, 1 ≤ k ∧ k ≤ m ∧ i = .int .i64 k ∧ t = .int .i64 (fst 1 y + cum (lp 1 y) k + d - 1)) (fun _ i => (m - intOf i).toNat)
  case atStart => exact ⟨1, by omega, by omega, rfl, by rw [cum_1, Int.add_zero]⟩
  case round =>
    obtain ⟨k, hk1, hk2, rfl, rfl⟩ := hrel
    have cb := cum_bounds (lp 1 y) k hk1 (by omega)
    have mb := mlen_bounds (lp 1 y) k hk1 (by omega)
    by_cases hlt : k < m
    · go_wp2_with (go_at_call 200; refine (JLength_any _ _ _ HT.out).mono ?_; rintro e w1 ⟨rfl, rfl⟩)
      go_round
      case rel => exact ⟨k + 1, by omega, by omega, rfl, by rw [HC.out k hk1 (by omega)]; go_num⟩
      case measure => simp [intOf]; omega
    · go_wp2_with fail
      go_ret2
      exact ⟨by rw [show m = k from by omega]; rfl, Kept.trans (Kept.alloc (Kept.refl _) _) HK.out⟩
end Go.Proofs.YtblaphkaklocfaaGreatDoor
/- Contracts: package julian, the date of a number. -/
namespace Go.Proofs.YtblaphkaklocfaaGreatDoor
open Go.ChangeShapes Go.WideShapes Go.ChangeAt Go.RowKit
set_option maxHeartbeats 800000

theorem IMod_any (a b : Int) (w : World) (ha : -4611686018427387904 ≤ a) (ha' : a ≤ 4611686018427387904) (hb : 1 ≤ b) (hb' : b ≤ 4611686018427387904) :
    Calls Tryz.prog 196 #[.int .i64 a, .int .i64 b] w fun e w' => e = .returned (.tuple #[.int .i64 (a % b), .bool true]) ∧ w.drew = w' := by
  go_enter Tryz.func196, Tryz.ntmps196
  go_wp2_with (go_at_call 247; refine (split_any _ _ _ (by omega) (by omega) (by omega) (by omega)).mono ?_; rintro e w1 ⟨rfl, rfl⟩)
  go_ret2
  exact ⟨rfl, rfl⟩
theorem JFromDay_no (n : Int) (w : World) (h : n < -1 ∨ 365249999999 ≤ n) :
    Calls Tryz.prog 145 #[.int .i64 n] w fun e w' => e = .returned (.tuple #[.agg #[.int .i64 0, .int .i64 0, .int .i64 0], .int .i64 1]) ∧ Kept w w' := by
  have F1 := fun w => Jfirst_any 1 w (by omega) (by omega)
  have F2 := fun w => Jfirst_any 1000000001 w (by omega) (by omega)
  rw [fst_one, if_pos rfl] at F1
  rw [fst_top, if_pos rfl] at F2
  have K1 := Lib.hid F1
  have K2 := Lib.hid F2
  clear F1 F2
  rcases h with h | h
  · go_enter Tryz.func145, Tryz.ntmps145
    go_wp2_with (first | (go_at_call 199; (with_reducible refine (K1.out _).mono ?_); rintro e w1 ⟨rfl, rfl⟩) | (go_at_call 199; (with_reducible refine (K2.out _).mono ?_); rintro e w1 ⟨rfl, rfl⟩))
    exact bodyPost_ret (v := .tuple #[.agg #[.int .i64 0, .int .i64 0, .int .i64 0], .int .i64 1]) (by simp [results, Tryz.results145, go_sem, *]) rfl ⟨rfl, (by repeat (first | with_reducible exact Kept.refl _ | with_reducible assumption | with_reducible refine Kept.drew ?_ | with_reducible refine Kept.drewN ?_ _ | with_reducible refine Kept.alloc ?_ _ | (with_reducible refine Kept.setCell ?_ (by first | exact Nat.le_refl _ | omega | (simp; done) | (simp; omega)) _) | (with_reducible refine Kept.trans ?_ (by with_reducible assumption))))⟩
  · have h' : -1 ≤ n := by omega
    go_enter Tryz.func145, Tryz.ntmps145
    go_wp2_with (first | (go_at_call 199; (with_reducible refine (K1.out _).mono ?_); rintro e w1 ⟨rfl, rfl⟩) | (go_at_call 199; (with_reducible refine (K2.out _).mono ?_); rintro e w1 ⟨rfl, rfl⟩))
    exact bodyPost_ret (v := .tuple #[.agg #[.int .i64 0, .int .i64 0, .int .i64 0], .int .i64 1]) (by simp [results, Tryz.results145, go_sem, *]) rfl ⟨rfl, (by repeat (first | with_reducible exact Kept.refl _ | with_reducible assumption | with_reducible refine Kept.drew ?_ | with_reducible refine Kept.drewN ?_ _ | with_reducible refine Kept.alloc ?_ _ | (with_reducible refine Kept.setCell ?_ (by first | exact Nat.le_refl _ | omega | (simp; done) | (simp; omega)) _) | (with_reducible refine Kept.trans ?_ (by with_reducible assumption))))⟩
/-- The year by division. -/
theorem yearJ_1 (n y : Int) (h : -1 ≤ n) (h1 : fst 1 y ≤ n) (h2 : n < fst 1 (y + 1)) (r : 3 < (n + 1) % 1461 / 365) : 4 * ((n + 1) / 1461) + 3 + 1 = y := by
  refine year_unique 1 n _ y ?_ ?_ h1 h2
  · unfold fst; simp only [if_true]; omega
  · unfold fst; simp only [if_true]; omega
theorem yearJ_2 (n y : Int) (h : -1 ≤ n) (h1 : fst 1 y ≤ n) (h2 : n < fst 1 (y + 1)) (r : ¬ 3 < (n + 1) % 1461 / 365) : 4 * ((n + 1) / 1461) + (n + 1) % 1461 / 365 + 1 = y := by
  refine year_unique 1 n _ y ?_ ?_ h1 h2
  · unfold fst; simp only [if_true]; omega
  · unfold fst; simp only [if_true]; omega
theorem yearJ (n y : Int) (h : -1 ≤ n) (h1 : fst 1 y ≤ n) (h2 : n < fst 1 (y + 1)) : 4 * ((n + 1) / 1461) + (if 3 < (n + 1) % 1461 / 365 then 3 else (n + 1) % 1461 / 365) + 1 = y := by
  split
  · exact yearJ_1 n y h h1 h2 (by assumption)
  · exact yearJ_2 n y h h1 h2 (by assumption)
theorem JFromDay_ok (n y m d : Int) (w : World) (hT : Tab w) (h : OkD 1 y m d) (e : num 1 y m d = n) :
    Calls Tryz.prog 145 #[.int .i64 n] w fun e w' => e = .returned (.tuple #[.agg #[.int .i64 y, .int .i64 m, .int .i64 d], .int .i64 0]) ∧ Kept w w' := by
  have F1 := fun w => Jfirst_any 1 w (by omega) (by omega)
  have F2 := fun w => Jfirst_any 1000000001 w (by omega) (by omega)
  rw [fst_one, if_pos rfl] at F1
  rw [fst_top, if_pos rfl] at F2
  have K1 := Lib.hid F1
  have K2 := Lib.hid F2
  clear F1 F2
  have hy := num_year 1 y m d h
  have hn := num_bounds 1 y m d h
  rw [fst_one, fst_top, if_pos rfl, if_pos rfl, e] at hn
  rw [e] at hy
  have HY1 := Lib.hid (yearJ_1 n y hn.1 hy.1 hy.2)
  have HY2 := Lib.hid (yearJ_2 n y hn.1 hy.1 hy.2)
  obtain ⟨hn1, hn2⟩ := hn
  obtain ⟨h1, h2, h3, h4, h5, h6⟩ := h
  have KC := Lib.hid (cum_succ (lp 1 y))
  have KM := Lib.hid (cum_mono (lp 1 y))
  have KT := Lib.hid (fun o => (hT.alloc o).drew.drew.drew.drew.drew)
  obtain ⟨hf1, hf2⟩ := fst_bounds 1 y h1 (by omega)
  have hb := mlen_bounds (lp 1 y) m h3 h4
  have hcm := cum_bounds (lp 1 y) m h3 (by omega)
  have HE : Hid (n = fst 1 y + cum (lp 1 y) m + d - 1) := e.symm
  clear e hy hT
  by_cases hr : 3 < (n + 1) % 1461 / 365
  · have HY := Lib.hid (HY1.out hr)
    go_enter Tryz.func145, Tryz.ntmps145
    go_wp2_with fail
    (go_at_call 199; refine (K1.out _).mono ?_; rintro e w1 ⟨rfl, rfl⟩)
    go_wp2_with fail
    (go_at_call 199; refine (K2.out _).mono ?_; rintro e w1 ⟨rfl, rfl⟩)
    go_wp2_with fail
    (go_at_call 201; refine (IDiv_any _ _ _ (by omega) (by omega) (by omega) (by omega)).mono ?_; rintro e w1 ⟨rfl, rfl⟩)
    go_wp2_with fail
    (go_at_call 196; refine (IMod_any _ _ _ (by omega) (by omega) (by omega) (by omega)).mono ?_; rintro e w1 ⟨rfl, rfl⟩)
    go_wp2_with fail
    rw [HY.out]
    clear HY1 HY2 hr HY
    (go_at_call 199; refine (Jfirst_any y _ h1 (by omega)).mono ?_; rintro e w1 ⟨rfl, rfl⟩)
    rw [HE.out, show fst 1 y + cum (lp 1 y) m + d - 1 = fst 1 y + (cum (lp 1 y) m + d - 1) from by omega]
    go_wp2_with fail
    clear hn1 hn2
    go_loop [9, 10] (fun t i => ∃ k : Int, 1 ≤ k ∧ k ≤ m ∧ i = .int .i64 k ∧ t = .int .i64 (cum (lp 1 y) m + d - 1 - cum (lp 1 y) k)) (fun t _ => (intOf t).toNat)
    case atStart => exact ⟨1, by omega, by omega, rfl, by rw [cum_1]; go_num⟩
    case round =>
      obtain ⟨k, hk1, hk2, rfl, rfl⟩ := hrel
      have cb := cum_bounds (lp 1 y) k hk1 (by omega)
      have mb := mlen_bounds (lp 1 y) k hk1 (by omega)
      by_cases hlt : k < m
      · have mm := KM.out k m hk1 hlt (by omega)
        go_wp2_with (go_at_call 200; refine (JLength_any _ _ _ (KT.out _)).mono ?_; rintro e w1 ⟨rfl, rfl⟩)
        go_round
        case rel => exact ⟨k + 1, by omega, by omega, rfl, by rw [KC.out k hk1 (by omega)]; go_num⟩
        case measure => simp [intOf]; omega
      · have hk : k = m := by omega
        subst hk
        clear hlt hk1 hk2
        go_wp2_with (go_at_call 200; refine (JLength_any _ _ _ (KT.out _)).mono ?_; rintro e w1 ⟨rfl, rfl⟩)
        exact bodyPost_ret (v := .tuple #[.agg #[.int .i64 y, .int .i64 k, .int .i64 (cum (lp 1 y) k + d - 1 - cum (lp 1 y) k + 1)], .int .i64 0]) (by simp [results, Tryz.results145, go_sem, *]) rfl ⟨by rw [show cum (lp 1 y) k + d - 1 - cum (lp 1 y) k + 1 = d from by omega], (by repeat (first | with_reducible exact Kept.refl _ | with_reducible assumption | with_reducible refine Kept.drew ?_ | with_reducible refine Kept.drewN ?_ _ | with_reducible refine Kept.alloc ?_ _ | (with_reducible refine Kept.setCell ?_ (by first | exact Nat.le_refl _ | omega | (simp; done) | (simp; omega)) _) | (with_reducible refine Kept.trans ?_ (by with_reducible assumption))))⟩
  · have HY := Lib.hid (HY2.out hr)
    go_enter Tryz.func145, Tryz.ntmps145
    go_wp2_with fail
    (go_at_call 199; refine (K1.out _).mono ?_; rintro e w1 ⟨rfl, rfl⟩)
    go_wp2_with fail
    (go_at_call 199; refine (K2.out _).mono ?_; rintro e w1 ⟨rfl, rfl⟩)
    go_wp2_with fail
    (go_at_call 201; refine (IDiv_any _ _ _ (by omega) (by omega) (by omega) (by omega)).mono ?_; rintro e w1 ⟨rfl, rfl⟩)
    go_wp2_with fail
    (go_at_call 196; refine (IMod_any _ _ _ (by omega) (by omega) (by omega) (by omega)).mono ?_; rintro e w1 ⟨rfl, rfl⟩)
    go_wp2_with fail
    rw [HY.out]
    clear HY1 HY2 hr HY
    (go_at_call 199; refine (Jfirst_any y _ h1 (by omega)).mono ?_; rintro e w1 ⟨rfl, rfl⟩)
    rw [HE.out, show fst 1 y + cum (lp 1 y) m + d - 1 = fst 1 y + (cum (lp 1 y) m + d - 1) from by omega]
    go_wp2_with fail
    clear hn1 hn2
    go_loop [9, 10] (fun t i => ∃ k : Int, 1 ≤ k ∧ k ≤ m ∧ i = .int .i64 k ∧ t = .int .i64 (cum (lp 1 y) m + d - 1 - cum (lp 1 y) k)) (fun t _ => (intOf t).toNat)
    case atStart => exact ⟨1, by omega, by omega, rfl, by rw [cum_1]; go_num⟩
    case round =>
      obtain ⟨k, hk1, hk2, rfl, rfl⟩ := hrel
      have cb := cum_bounds (lp 1 y) k hk1 (by omega)
      have mb := mlen_bounds (lp 1 y) k hk1 (by omega)
      by_cases hlt : k < m
      · have mm := KM.out k m hk1 hlt (by omega)
        go_wp2_with (go_at_call 200; refine (JLength_any _ _ _ (KT.out _)).mono ?_; rintro e w1 ⟨rfl, rfl⟩)
        go_round
        case rel => exact ⟨k + 1, by omega, by omega, rfl, by rw [KC.out k hk1 (by omega)]; go_num⟩
        case measure => simp [intOf]; omega
      · have hk : k = m := by omega
        subst hk
        clear hlt hk1 hk2
        go_wp2_with (go_at_call 200; refine (JLength_any _ _ _ (KT.out _)).mono ?_; rintro e w1 ⟨rfl, rfl⟩)
        exact bodyPost_ret (v := .tuple #[.agg #[.int .i64 y, .int .i64 k, .int .i64 (cum (lp 1 y) k + d - 1 - cum (lp 1 y) k + 1)], .int .i64 0]) (by simp [results, Tryz.results145, go_sem, *]) rfl ⟨by rw [show cum (lp 1 y) k + d - 1 - cum (lp 1 y) k + 1 = d from by omega], (by repeat (first | with_reducible exact Kept.refl _ | with_reducible assumption | with_reducible refine Kept.drew ?_ | with_reducible refine Kept.drewN ?_ _ | with_reducible refine Kept.alloc ?_ _ | (with_reducible refine Kept.setCell ?_ (by first | exact Nat.le_refl _ | omega | (simp; done) | (simp; omega)) _) | (with_reducible refine Kept.trans ?_ (by with_reducible assumption))))⟩
end Go.Proofs.YtblaphkaklocfaaGreatDoor

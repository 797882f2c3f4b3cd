/- Contracts: package julian. -/
import Derived.Test.YtdmgnanpjkimlaaDoorGreg3
set_option linter.unusedSimpArgs false
set_option linter.unusedVariables false
set_option linter.unusedSectionVars false
namespace Go.Proofs.YtdmgnanpjkimlaaDoor
open Go.ChangeShapes Go.WideShapes Go.ChangeAt Go.RowKit
set_option maxHeartbeats 800000

theorem lt_cell {w : World} {k o : Nat} {v : Value} (h : w.cell? ⟨k, o, none⟩ = some v) : k < w.heap.size := by
  by_cases hk : k < w.heap.size
  · exact hk
  · have : w.heap[k]? = none := by simp; omega
    simp [World.cell?, this] at h

/-- The table of the lengths of the months lies as the program's text lays it. -/
def Tab (w : World) : Prop := ∀ m : Int, 1 ≤ m → m ≤ 12 → w.cell? ⟨2, (m - 1).toNat, none⟩ = some (.int .i64 (mlen false m))
theorem Tab.kept {w w' : World} (h : Tab w) (k : Kept w w') : Tab w' := fun m h1 h2 => by
  have := h m h1 h2
  rw [k.cell _ _ (lt_cell this)]
  exact this
theorem Tab.drewN {w : World} (h : Tab w) (n : Nat) : Tab (w.drewN n) := h
theorem Tab.drew {w : World} (h : Tab w) : Tab w.drew := h
theorem Tab.alloc {w : World} (h : Tab w) (o : Obj) : Tab (w.alloc o) := h.kept (Kept.alloc (Kept.refl _) _)

theorem JLeap_any (y : Int) (w : World) :
    Calls Tryd.prog 50 #[.int .i64 y] w fun e w' => e = .returned (.bool (lp 1 y)) ∧ w = w' := by
  have HL := Lib.hid (show lp 1 y = decide (y % 4 = 0) from rfl)
  have H4 := Lib.hid (tmod_zero y 4 (by omega))
  by_cases h : 0 ≤ y
  · go_enter Tryd.func50, Tryd.ntmps50
    go_wp2
    all_goals go_ret
    all_goals refine ⟨ret_bool ?_, rfl⟩
    all_goals rw [HL.out, Bool.eq_iff_iff]
    all_goals simp
  · go_enter Tryd.func50, Tryd.ntmps50
    go_wp2
    all_goals go_ret
    all_goals refine ⟨ret_bool ?_, rfl⟩
    all_goals rw [HL.out, Bool.eq_iff_iff]
    all_goals have a4 := H4.out
    all_goals simp [a4, *]
theorem JLength_out (y m : Int) (w : World) (h : m < 1 ∨ 12 < m) :
    Calls Tryd.prog 68 #[.int .i64 y, .int .i64 m] w fun e w' => e = .returned (.int .i64 0) ∧ w = w' := by
  rcases h with h | h
  all_goals
    go_enter Tryd.func68, Tryd.ntmps68
    go_wp2
    go_ret
    exact ⟨rfl, rfl⟩
theorem JLength_in (y m : Int) (w : World) (hT : Tab w) (h : 1 ≤ m) (h' : m ≤ 12) :
    Calls Tryd.prog 68 #[.int .i64 y, .int .i64 m] w fun e w' => e = .returned (.int .i64 (mlen (lp 1 y) m)) ∧ w = w' := by
  have hc : w.cell? ⟨2, m.toNat - 1, none⟩ = some (.int .i64 (mlen false m)) := by
    have := hT m h h'
    rwa [show (m - 1).toNat = m.toNat - 1 from by omega] at this
  clear hT
  by_cases h2 : m = 2
  · subst h2
    have hc2 : w.cell? ⟨2, 1, none⟩ = some (.int .i64 28) := hc
    clear hc
    cases hl : lp 1 y
    · have KL := Lib.hid (fun w => JLeap_any y w)
      rw [hl] at KL
      clear hl
      go_enter Tryd.func68, Tryd.ntmps68
      go_wp2_with (go_at_call 50; (with_reducible refine (KL.out _).mono ?_); rintro e w1 ⟨rfl, rfl⟩)
      go_ret
      exact ⟨rfl, rfl⟩
    · have KL := Lib.hid (fun w => JLeap_any y w)
      rw [hl] at KL
      clear hl
      go_enter Tryd.func68, Tryd.ntmps68
      go_wp2_with (go_at_call 50; (with_reducible refine (KL.out _).mono ?_); rintro e w1 ⟨rfl, rfl⟩)
      go_ret
      exact ⟨rfl, rfl⟩
  · have hm : mlen (lp 1 y) m = mlen false m := by
      unfold mlen
      split
      · rfl
      · simp [h2]
    have HM := Lib.hid hm
    have h3 : (m == 2) = false := by simpa using h2
    clear hm h2
    go_enter Tryd.func68, Tryd.ntmps68
    go_wp2_with (go_at_call 50; (with_reducible refine (JLeap_any _ _).mono ?_); rintro e w1 ⟨rfl, rfl⟩)
    go_ret
    exact ⟨by rw [HM.out]; rfl, rfl⟩
theorem JLength_any (y m : Int) (w : World) (hT : Tab w) :
    Calls Tryd.prog 68 #[.int .i64 y, .int .i64 m] w fun e w' => e = .returned (.int .i64 (mlen (lp 1 y) m)) ∧ w = w' := by
  by_cases h : m < 1 ∨ 12 < m
  · rw [mlen_out _ _ h]; exact JLength_out y m w h
  · exact JLength_in y m w hT (by omega) (by omega)
theorem JinR_yes (y : Int) (w : World) (h : 1 ≤ y) (h' : y ≤ 1000000000) :
    Calls Tryd.prog 65 #[.int .i64 y] w fun e w' => e = .returned (.bool true) ∧ w = w' := by
  have h3 : decide (y ≤ 1000000000) = true := by simp; omega
  go_enter Tryd.func65, Tryd.ntmps65
  go_wp2
  go_ret
  exact ⟨by first | rfl | (simp; done) | (simp; omega), rfl⟩
theorem JinR_no (y : Int) (w : World) (h : y < 1 ∨ 1000000000 < y) :
    Calls Tryd.prog 65 #[.int .i64 y] w fun e w' => e = .returned (.bool false) ∧ w = w' := by
  go_enter Tryd.func65, Tryd.ntmps65
  go_wp2
  all_goals go_ret
  all_goals exact ⟨by first | rfl | (simp; done) | (simp; omega), rfl⟩
theorem Jfirst_any (y : Int) (w : World) (h : 1 ≤ y) (h' : y ≤ 1000000001) :
    Calls Tryd.prog 67 #[.int .i64 y] w fun e w' => e = .returned (.int .i64 (fst 1 y)) ∧ w.drew = w' := by
  have HF := Lib.hid (show fst 1 y = -1 + 365 * (y - 1) + (y - 1) / 4 from by unfold fst; simp only [if_true]; omega)
  go_enter Tryd.func67, Tryd.ntmps67
  go_wp2_with (go_at_call 69; refine (IDiv_any _ _ _ (by omega) (by omega) (by omega) (by omega)).mono ?_; rintro e w1 ⟨rfl, rfl⟩)
  go_ret
  exact ⟨by rw [HF.out]; rfl, rfl⟩
theorem JFirst_ok (y : Int) (w : World) (h : 1 ≤ y) (h' : y ≤ 1000000000) :
    Calls Tryd.prog 49 #[.int .i64 y] w fun e w' => e = .returned (.tuple #[.int .i64 (fst 1 y), .int .i64 0]) ∧ w.drew = w' := by
  go_enter Tryd.func49, Tryd.ntmps49
  go_wp2_with (first | (go_at_call 65; refine (JinR_yes _ _ h h').mono ?_; rintro e w1 ⟨rfl, rfl⟩) | (go_at_call 67; refine (Jfirst_any _ _ (by omega) (by omega)).mono ?_; rintro e w1 ⟨rfl, rfl⟩))
  go_ret2
  exact ⟨rfl, rfl⟩
theorem JFirst_no (y : Int) (w : World) (h : y < 1 ∨ 1000000000 < y) :
    Calls Tryd.prog 49 #[.int .i64 y] w fun e w' => e = .returned (.tuple #[.int .i64 0, .int .i64 1]) ∧ w = w' := by
  go_enter Tryd.func49, Tryd.ntmps49
  go_wp2_with (first | (go_at_call 65; refine (JinR_no _ _ h).mono ?_; rintro e w1 ⟨rfl, rfl⟩))
  go_ret2
  exact ⟨rfl, rfl⟩

theorem JValid_yes (y m d : Int) (w : World) (hT : Tab w) (h : OkD 1 y m d) :
    Calls Tryd.prog 66 #[.agg #[.int .i64 y, .int .i64 m, .int .i64 d]] w fun e w' => e = .returned (.bool true) ∧ Kept w w' := by
  have KT := Lib.hid (fun o n => Tab.drewN (hT.alloc o) n)
  obtain ⟨h1, h2, h3, h4, h5, h6⟩ := h
  have hb := mlen_bounds (lp 1 y) m h3 h4
  have hd : decide (d ≤ mlen (lp 1 y) m) = true := by simp; omega
  clear hT
  go_enter Tryd.func66, Tryd.ntmps66
  go_wp2_with fail
  go_quiet ((first | (go_at_call 65; exact quiet_left (JinR_yes _ _ h1 h2)) | (go_at_call 68; exact quiet_left (JLength_any _ _ _ (KT.out _ _)))))
  go_wp2_with fail
  go_ret
  exact ⟨rfl, (by repeat (first | with_reducible exact Kept.refl _ | with_reducible assumption | with_reducible refine Kept.drew ?_ | with_reducible refine Kept.drewN ?_ _ | with_reducible refine Kept.alloc ?_ _ | (with_reducible refine Kept.setCell ?_ (by first | exact Nat.le_refl _ | omega | (simp; done) | (simp; omega)) _) | (with_reducible refine Kept.trans ?_ (by with_reducible assumption))))⟩
theorem JValid_no (y m d : Int) (w : World) (hT : Tab w) (h : ¬ OkD 1 y m d) :
    Calls Tryd.prog 66 #[.agg #[.int .i64 y, .int .i64 m, .int .i64 d]] w fun e w' => e = .returned (.bool false) ∧ Kept w w' := by
  have KT := Lib.hid (fun o n => Tab.drewN (hT.alloc o) n)
  clear hT
  by_cases h1 : 1 ≤ y ∧ y ≤ 1000000000
  · obtain ⟨h1, h2⟩ := h1
    by_cases h5 : 1 ≤ d
    · have h6 : ¬ d ≤ mlen (lp 1 y) m := by
        intro h6
        refine h ⟨h1, h2, ?_, ?_, h5, h6⟩
        · by_cases g : m < 1
          · rw [mlen_out _ _ (.inl g)] at h6; omega
          · omega
        · by_cases g : 12 < m
          · rw [mlen_out _ _ (.inr g)] at h6; omega
          · omega
      have hd : decide (d ≤ mlen (lp 1 y) m) = false := by simp; omega
      go_enter Tryd.func66, Tryd.ntmps66
      go_wp2_with fail
      go_quiet ((first | (go_at_call 65; exact quiet_left (JinR_yes _ _ h1 h2)) | (go_at_call 68; exact quiet_left (JLength_any _ _ _ (KT.out _ _)))))
      go_wp2_with fail
      go_ret
      exact ⟨rfl, (by repeat (first | with_reducible exact Kept.refl _ | with_reducible assumption | with_reducible refine Kept.drew ?_ | with_reducible refine Kept.drewN ?_ _ | with_reducible refine Kept.alloc ?_ _ | (with_reducible refine Kept.setCell ?_ (by first | exact Nat.le_refl _ | omega | (simp; done) | (simp; omega)) _) | (with_reducible refine Kept.trans ?_ (by with_reducible assumption))))⟩
    · have hd : decide (1 ≤ d) = false := by simp; omega
      go_enter Tryd.func66, Tryd.ntmps66
      go_wp2_with fail
      go_quiet ((first | (go_at_call 65; exact quiet_left (JinR_yes _ _ h1 h2)) | (go_at_call 68; exact quiet_left (JLength_any _ _ _ (KT.out _ _)))))
      go_wp2_with fail
      go_ret
      exact ⟨rfl, (by repeat (first | with_reducible exact Kept.refl _ | with_reducible assumption | with_reducible refine Kept.drew ?_ | with_reducible refine Kept.drewN ?_ _ | with_reducible refine Kept.alloc ?_ _ | (with_reducible refine Kept.setCell ?_ (by first | exact Nat.le_refl _ | omega | (simp; done) | (simp; omega)) _) | (with_reducible refine Kept.trans ?_ (by with_reducible assumption))))⟩
  · go_enter Tryd.func66, Tryd.ntmps66
    go_wp2_with fail
    go_quiet ((first | (go_at_call 65; exact quiet_left (JinR_no _ _ (by omega))) | (go_at_call 68; exact quiet_left (JLength_any _ _ _ (KT.out _ _)))))
    go_wp2_with fail
    go_ret
    exact ⟨rfl, (by repeat (first | with_reducible exact Kept.refl _ | with_reducible assumption | with_reducible refine Kept.drew ?_ | with_reducible refine Kept.drewN ?_ _ | with_reducible refine Kept.alloc ?_ _ | (with_reducible refine Kept.setCell ?_ (by first | exact Nat.le_refl _ | omega | (simp; done) | (simp; omega)) _) | (with_reducible refine Kept.trans ?_ (by with_reducible assumption))))⟩

theorem JToDay_range (y m d : Int) (w : World) (h : y < 1 ∨ 1000000000 < y) :
    Calls Tryd.prog 47 #[.agg #[.int .i64 y, .int .i64 m, .int .i64 d]] w fun e w' => e = .returned (.tuple #[.int .i64 0, .int .i64 1]) ∧ Kept w w' := by
  go_enter Tryd.func47, Tryd.ntmps47
  go_wp2_with (first | (go_at_call 65; refine (JinR_no _ _ (by omega)).mono ?_; rintro e w1 ⟨rfl, rfl⟩))
  go_ret2
  exact ⟨rfl, (by repeat (first | with_reducible exact Kept.refl _ | with_reducible assumption | with_reducible refine Kept.drew ?_ | with_reducible refine Kept.drewN ?_ _ | with_reducible refine Kept.alloc ?_ _ | (with_reducible refine Kept.setCell ?_ (by first | exact Nat.le_refl _ | omega | (simp; done) | (simp; omega)) _) | (with_reducible refine Kept.trans ?_ (by with_reducible assumption))))⟩
theorem JToDay_date (y m d : Int) (w : World) (hT : Tab w) (h1 : 1 ≤ y) (h2 : y ≤ 1000000000) (h : ¬ OkD 1 y m d) :
    Calls Tryd.prog 47 #[.agg #[.int .i64 y, .int .i64 m, .int .i64 d]] w fun e w' => e = .returned (.tuple #[.int .i64 0, .int .i64 2]) ∧ Kept w w' := by
  have KT := Lib.hid (fun o => hT.alloc o)
  clear hT
  go_enter Tryd.func47, Tryd.ntmps47
  go_wp2_with (first | (go_at_call 65; refine (JinR_yes _ _ h1 h2).mono ?_; rintro e w1 ⟨rfl, rfl⟩) | (go_at_call 66; refine (JValid_no _ _ _ _ (KT.out _) h).mono ?_; rintro e w1 ⟨rfl, hk1⟩))
  go_ret2
  exact ⟨rfl, (by repeat (first | with_reducible exact Kept.refl _ | with_reducible assumption | with_reducible refine Kept.drew ?_ | with_reducible refine Kept.drewN ?_ _ | with_reducible refine Kept.alloc ?_ _ | (with_reducible refine Kept.setCell ?_ (by first | exact Nat.le_refl _ | omega | (simp; done) | (simp; omega)) _) | (with_reducible refine Kept.trans ?_ (by with_reducible assumption))))⟩
theorem quiet_drew {P : Program} {f : FuncId} {args : Array Value} {w : World} {n : Nat} {v : Value}
    (h : Calls P f args (w.drewN n) fun e w' => e = .returned v ∧ (w.drewN n).drew = w') : Calls P f args (w.drewN n) fun e w'' => e = .returned v ∧ ∃ m, w'' = w.drewN m :=
  h.mono fun _ _ ⟨he, hm⟩ => ⟨he, n + 1, hm.symm⟩
theorem JToDay_ok (y m d : Int) (w : World) (hT : Tab w) (h : OkD 1 y m d) :
    Calls Tryd.prog 47 #[.agg #[.int .i64 y, .int .i64 m, .int .i64 d]] w fun e w' => e = .returned (.tuple #[.int .i64 (num 1 y m d), .int .i64 0]) ∧ Kept w w' := by
  have HV := Lib.hid (fun o => JValid_yes y m d (w.alloc o) (hT.alloc o) h)
  have KT := Lib.hid (fun o => hT.alloc o)
  clear hT
  obtain ⟨h1, h2, h3, h4, h5, h6⟩ := h
  have hb := mlen_bounds (lp 1 y) m h3 h4
  obtain ⟨hf1, hf2⟩ := fst_bounds 1 y h1 (by omega)
  have HC := Lib.hid (cum_succ (lp 1 y))
  go_enter Tryd.func47, Tryd.ntmps47
  go_wp2_with fail
  (go_at_call 65; refine (JinR_yes _ _ h1 h2).mono ?_; rintro e w1 ⟨rfl, rfl⟩)
  go_wp2_with fail
  (go_at_call 66; refine (HV.out _).mono ?_; rintro e w1 ⟨rfl, hk1⟩)
  have hB1_1 := hk1
  obtain ⟨hc1_1, hf1_1⟩ := kept_cells hB1_1
  have hz1_0_1 : w.heap.size < w1.heap.size := by have := hB1_1.size; simp at this; omega
  go_wp2_with fail
  go_quiet ((go_at_call 67; exact quiet_drew (Jfirst_any _ _ (by omega) (by omega))))
  go_wp2_with fail
  have hk := Kept.drewN hB1_1 nq
  have HT := Lib.hid ((KT.out _).kept hk)
  have HK := Lib.hid hk
  obtain ⟨hcX, hfX⟩ := kept_cells hk
  generalize w1.drewN nq = W at *
  clear hk hk1 hB1_1 hc1_1 hf1_1
  go_loop [4, 5] (fun t i => ∃ k : Int, 1 ≤ k ∧ k ≤ m ∧ i = .int .i64 k ∧ t = .int .i64 (fst 1 y + cum (lp 1 y) k + d - 1)) (fun _ i => (m - intOf i).toNat)
  case atStart => exact ⟨1, by omega, by omega, rfl, by rw [cum_1, Int.add_zero]⟩
  case round =>
    obtain ⟨k, hk1, hk2, rfl, rfl⟩ := hrel
    have cb := cum_bounds (lp 1 y) k hk1 (by omega)
    have mb := mlen_bounds (lp 1 y) k hk1 (by omega)
    by_cases hlt : k < m
    · go_wp2_with (go_at_call 68; refine (JLength_any _ _ _ HT.out).mono ?_; rintro e w1 ⟨rfl, rfl⟩)
      go_round
      case rel => exact ⟨k + 1, by omega, by omega, rfl, by rw [HC.out k hk1 (by omega)]; go_num⟩
      case measure => simp [intOf]; omega
    · go_wp2_with fail
      go_ret2
      exact ⟨by rw [show m = k from by omega]; rfl, Kept.trans (Kept.alloc (Kept.refl _) _) HK.out⟩
end Go.Proofs.YtdmgnanpjkimlaaDoor

/- Contracts and plain lemmas: Civ, CivS, Gold0, Moon. -/
import Derived.Test.YtblaphkaklocfaaGreatDoorG01
import Derived.Test.YtblaphkaklocfaaGreatDoorG02
import Derived.Test.YtblaphkaklocfaaGreatDoorG03
import Derived.Test.YtblaphkaklocfaaGreatDoorG04
import Derived.Laws.EntriesVeiled
set_option linter.unusedSimpArgs false
set_option linter.unusedVariables false
set_option linter.unusedSectionVars false
/- Contracts: package civil and its reference: numbers and dates. -/
namespace Go.Proofs.YtblaphkaklocfaaGreatDoor
open Go.ChangeShapes Go.WideShapes Go.ChangeAt Go.RowKit
set_option maxHeartbeats 800000

theorem GToDay_all (y m d : Int) (w : World) :
    Calls Tryz.prog 148 #[.agg #[.int .i64 y, .int .i64 m, .int .i64 d]] w fun e w' => e = .returned (.tuple #[.int .i64 (tdN 2 y m d), .int .i64 (tdE 2 y m d)]) ∧ Kept w w' := by
  rcases td_cases 2 y m d with ⟨h, e1, e2⟩ | ⟨⟨h1, h2, h⟩, e1, e2⟩ | ⟨h, e1, e2⟩
  · rw [e1, e2]; exact ToDay_range _ _ _ _ h
  · rw [e1, e2]; exact ToDay_date _ _ _ _ h1 h2 h
  · rw [e1, e2]; exact ToDay_ok _ _ _ _ h
theorem rToDay_all (y m d : Int) (w : World) :
    Calls Tryz.prog 15 #[.agg #[.int .i64 y, .int .i64 m, .int .i64 d]] w fun e w' => e = .returned (.tuple #[.int .i64 (tdN 2 y m d), .int .i64 (tdE 2 y m d)]) ∧ Kept w w' := by
  rcases td_cases 2 y m d with ⟨h, e1, e2⟩ | ⟨⟨h1, h2, h⟩, e1, e2⟩ | ⟨h, e1, e2⟩
  · rw [e1, e2]; exact rToDay_range _ _ _ _ h
  · rw [e1, e2]; exact rToDay_date _ _ _ _ h1 h2 h
  · rw [e1, e2]; exact rToDay_ok _ _ _ _ h
theorem JToDay_all (y m d : Int) (w : World) (hT : Tab w) :
    Calls Tryz.prog 144 #[.agg #[.int .i64 y, .int .i64 m, .int .i64 d]] w fun e w' => e = .returned (.tuple #[.int .i64 (tdN 1 y m d), .int .i64 (tdE 1 y m d)]) ∧ Kept w w' := by
  rcases td_cases 1 y m d with ⟨h, e1, e2⟩ | ⟨⟨h1, h2, h⟩, e1, e2⟩ | ⟨h, e1, e2⟩
  · rw [e1, e2]; exact JToDay_range _ _ _ _ h
  · rw [e1, e2]; exact JToDay_date _ _ _ _ hT h1 h2 h
  · rw [e1, e2]; exact JToDay_ok _ _ _ _ hT h
theorem jToDay_all (y m d : Int) (w : World) :
    Calls Tryz.prog 86 #[.agg #[.int .i64 y, .int .i64 m, .int .i64 d]] w fun e w' => e = .returned (.tuple #[.int .i64 (tdN 1 y m d), .int .i64 (tdE 1 y m d)]) ∧ Kept w w' := by
  rcases td_cases 1 y m d with ⟨h, e1, e2⟩ | ⟨⟨h1, h2, h⟩, e1, e2⟩ | ⟨h, e1, e2⟩
  · rw [e1, e2]; exact jToDay_range _ _ _ _ h
  · rw [e1, e2]; exact jToDay_date _ _ _ _ h1 h2 h
  · rw [e1, e2]; exact jToDay_ok _ _ _ _ h
theorem GFromDay_all (n y m d e : Int) (w : World) (h : FdRel 2 n y m d e) :
    Calls Tryz.prog 149 #[.int .i64 n] w fun e' w' => e' = .returned (.tuple #[.agg #[.int .i64 y, .int .i64 m, .int .i64 d], .int .i64 e]) ∧ Kept w w' := by
  rcases h with ⟨h, rfl, rfl, rfl, rfl⟩ | ⟨h, h', rfl⟩
  · rw [fst_one, fst_top, if_neg (by decide), if_neg (by decide)] at h; exact FromDay_no _ _ h
  · exact FromDay_ok _ _ _ _ _ h h'
theorem rFromDay_all (n y m d e : Int) (w : World) (h : FdRel 2 n y m d e) :
    Calls Tryz.prog 68 #[.int .i64 n] w fun e' w' => e' = .returned (.tuple #[.agg #[.int .i64 y, .int .i64 m, .int .i64 d], .int .i64 e]) ∧ Kept w w' := by
  rcases h with ⟨h, rfl, rfl, rfl, rfl⟩ | ⟨h, h', rfl⟩
  · rw [fst_one, fst_top, if_neg (by decide), if_neg (by decide)] at h; exact rFromDay_no _ _ h
  · exact rFromDay_ok _ _ _ _ _ h h'
theorem JFromDay_all (n y m d e : Int) (w : World) (hT : Tab w) (h : FdRel 1 n y m d e) :
    Calls Tryz.prog 145 #[.int .i64 n] w fun e' w' => e' = .returned (.tuple #[.agg #[.int .i64 y, .int .i64 m, .int .i64 d], .int .i64 e]) ∧ Kept w w' := by
  rcases h with ⟨h, rfl, rfl, rfl, rfl⟩ | ⟨h, h', rfl⟩
  · rw [fst_one, fst_top, if_pos rfl, if_pos rfl] at h; exact JFromDay_no _ _ h
  · exact JFromDay_ok _ _ _ _ _ hT h h'
theorem jFromDay_all (n y m d e : Int) (w : World) (h : FdRel 1 n y m d e) :
    Calls Tryz.prog 260 #[.int .i64 n] w fun e' w' => e' = .returned (.tuple #[.agg #[.int .i64 y, .int .i64 m, .int .i64 d], .int .i64 e]) ∧ Kept w w' := by
  rcases h with ⟨h, rfl, rfl, rfl, rfl⟩ | ⟨h, h', rfl⟩
  · rw [fst_one, fst_top, if_pos rfl, if_pos rfl] at h; exact jFromDay_no _ _ h
  · exact jFromDay_ok _ _ _ _ _ h h'

theorem of_1 (w : World) : Calls Tryz.prog 99 #[.int .i64 1] w fun e w' => e = .returned (.tuple #[.agg #[.func (.func 144) #[] #[], .func (.func 145) #[] #[], .func (.func 146) #[] #[], .func (.func 147) #[] #[]], .int .i64 0]) ∧ Kept w w' := by
  go_enter Tryz.func99, Tryz.ntmps99
  go_wp2
  exact bodyPost_ret (v := .tuple #[.agg #[.func (.func 144) #[] #[], .func (.func 145) #[] #[], .func (.func 146) #[] #[], .func (.func 147) #[] #[]], .int .i64 0]) (by simp [results, Tryz.results99, go_sem, *]) rfl ⟨rfl, (by repeat (first | with_reducible exact Kept.refl _ | with_reducible assumption | with_reducible refine Kept.drew ?_ | with_reducible refine Kept.drewN ?_ _ | with_reducible refine Kept.alloc ?_ _ | (with_reducible refine Kept.setCell ?_ (by first | exact Nat.le_refl _ | omega | (simp; done) | (simp; omega)) _) | (with_reducible refine Kept.trans ?_ (by with_reducible assumption))))⟩
theorem of_2 (w : World) : Calls Tryz.prog 99 #[.int .i64 2] w fun e w' => e = .returned (.tuple #[.agg #[.func (.func 148) #[] #[], .func (.func 149) #[] #[], .func (.func 105) #[] #[], .func (.func 150) #[] #[]], .int .i64 0]) ∧ Kept w w' := by
  go_enter Tryz.func99, Tryz.ntmps99
  go_wp2
  exact bodyPost_ret (v := .tuple #[.agg #[.func (.func 148) #[] #[], .func (.func 149) #[] #[], .func (.func 105) #[] #[], .func (.func 150) #[] #[]], .int .i64 0]) (by simp [results, Tryz.results99, go_sem, *]) rfl ⟨rfl, (by repeat (first | with_reducible exact Kept.refl _ | with_reducible assumption | with_reducible refine Kept.drew ?_ | with_reducible refine Kept.drewN ?_ _ | with_reducible refine Kept.alloc ?_ _ | (with_reducible refine Kept.setCell ?_ (by first | exact Nat.le_refl _ | omega | (simp; done) | (simp; omega)) _) | (with_reducible refine Kept.trans ?_ (by with_reducible assumption))))⟩
theorem of_no (c : Int) (w : World) (h : c < 1 ∨ 2 < c) : Calls Tryz.prog 99 #[.int .i64 c] w fun e w' => e = .returned (.tuple #[.agg #[.nilFunc, .nilFunc, .nilFunc, .nilFunc], .int .i64 3]) ∧ Kept w w' := by
  rcases h with h | h
  all_goals
    go_enter Tryz.func99, Tryz.ntmps99
    go_wp2
    exact bodyPost_ret (v := .tuple #[.agg #[.nilFunc, .nilFunc, .nilFunc, .nilFunc], .int .i64 3]) (by simp [results, Tryz.results99, go_sem, *]) rfl ⟨rfl, (by repeat (first | with_reducible exact Kept.refl _ | with_reducible assumption | with_reducible refine Kept.drew ?_ | with_reducible refine Kept.drewN ?_ _ | with_reducible refine Kept.alloc ?_ _ | (with_reducible refine Kept.setCell ?_ (by first | exact Nat.le_refl _ | omega | (simp; done) | (simp; omega)) _) | (with_reducible refine Kept.trans ?_ (by with_reducible assumption))))⟩

theorem CToDay_all (c y m d : Int) (w : World) (hT : Tab w) :
    Calls Tryz.prog 96 #[.int .i64 c, .agg #[.int .i64 y, .int .i64 m, .int .i64 d]] w fun e w' => e = .returned (.tuple #[.int .i64 (cN c y m d), .int .i64 (cE c y m d)]) ∧ Kept w w' := by
  have KT := Lib.hid (fun w' (k : Kept w w') => hT.kept k)
  clear hT
  rcases cal_cases c with rfl | rfl | ⟨h, h'⟩
  · rw [show cN 1 y m d = tdN 1 y m d from rfl, show cE 1 y m d = tdE 1 y m d from rfl]
    go_enter Tryz.func96, Tryz.ntmps96
    go_wp2_with fail
    (go_at_call 99; refine (of_1 _).mono ?_; rintro e w1 ⟨rfl, hk1⟩)
    have hB1_1 := hk1
    obtain ⟨hc1_1, hf1_1⟩ := kept_cells hB1_1
    have hz1_0_1 : w.heap.size < w1.heap.size := by have := hB1_1.size; simp at this; omega
    go_wp2_with fail
    (go_at_call 144; refine (JToDay_all _ _ _ _ (KT.out _ (by repeat (first | with_reducible exact Kept.refl _ | with_reducible assumption | with_reducible refine Kept.drew ?_ | with_reducible refine Kept.drewN ?_ _ | with_reducible refine Kept.alloc ?_ _ | (with_reducible refine Kept.setCell ?_ (by first | exact Nat.le_refl _ | omega | (simp; done) | (simp; omega)) _) | (with_reducible refine Kept.trans ?_ (by with_reducible assumption)))))).mono ?_; rintro e w2 ⟨rfl, hk2⟩)
    have hB1_2 := Kept.trans (Kept.alloc hB1_1 _) hk2
    have hB2_2 := hk2
    obtain ⟨hc1_2, hf1_2⟩ := kept_cells hB1_2
    have hz1_0_2 : w.heap.size < w2.heap.size := by have := hB1_2.size; simp at this; omega
    obtain ⟨hc2_2, hf2_2⟩ := kept_cells hB2_2
    have hz2_0_2 : w1.heap.size < w2.heap.size := by have := hB2_2.size; simp at this; omega
    go_wp2
    go_ret2
    exact ⟨rfl, (by repeat (first | with_reducible exact Kept.refl _ | with_reducible assumption | with_reducible refine Kept.drew ?_ | with_reducible refine Kept.drewN ?_ _ | with_reducible refine Kept.alloc ?_ _ | (with_reducible refine Kept.setCell ?_ (by first | exact Nat.le_refl _ | omega | (simp; done) | (simp; omega)) _) | (with_reducible refine Kept.trans ?_ (by with_reducible assumption))))⟩
  · rw [show cN 2 y m d = tdN 2 y m d from rfl, show cE 2 y m d = tdE 2 y m d from rfl]
    go_enter Tryz.func96, Tryz.ntmps96
    go_wp2_with fail
    (go_at_call 99; refine (of_2 _).mono ?_; rintro e w1 ⟨rfl, hk1⟩)
    have hB1_1 := hk1
    obtain ⟨hc1_1, hf1_1⟩ := kept_cells hB1_1
    have hz1_0_1 : w.heap.size < w1.heap.size := by have := hB1_1.size; simp at this; omega
    go_wp2_with fail
    (go_at_call 148; refine (GToDay_all _ _ _ _).mono ?_; rintro e w2 ⟨rfl, hk2⟩)
    have hB1_2 := Kept.trans (Kept.alloc hB1_1 _) hk2
    have hB2_2 := hk2
    obtain ⟨hc1_2, hf1_2⟩ := kept_cells hB1_2
    have hz1_0_2 : w.heap.size < w2.heap.size := by have := hB1_2.size; simp at this; omega
    obtain ⟨hc2_2, hf2_2⟩ := kept_cells hB2_2
    have hz2_0_2 : w1.heap.size < w2.heap.size := by have := hB2_2.size; simp at this; omega
    go_wp2
    go_ret2
    exact ⟨rfl, (by repeat (first | with_reducible exact Kept.refl _ | with_reducible assumption | with_reducible refine Kept.drew ?_ | with_reducible refine Kept.drewN ?_ _ | with_reducible refine Kept.alloc ?_ _ | (with_reducible refine Kept.setCell ?_ (by first | exact Nat.le_refl _ | omega | (simp; done) | (simp; omega)) _) | (with_reducible refine Kept.trans ?_ (by with_reducible assumption))))⟩
  · rw [show cN c y m d = 0 from if_neg h, show cE c y m d = 3 from if_neg h]
    clear h
    go_enter Tryz.func96, Tryz.ntmps96
    go_wp2_with fail
    (go_at_call 99; refine (of_no _ _ h').mono ?_; rintro e w1 ⟨rfl, hk1⟩)
    have hB1_1 := hk1
    obtain ⟨hc1_1, hf1_1⟩ := kept_cells hB1_1
    have hz1_0_1 : w.heap.size < w1.heap.size := by have := hB1_1.size; simp at this; omega
    go_wp2
    go_ret2
    exact ⟨rfl, (by repeat (first | with_reducible exact Kept.refl _ | with_reducible assumption | with_reducible refine Kept.drew ?_ | with_reducible refine Kept.drewN ?_ _ | with_reducible refine Kept.alloc ?_ _ | (with_reducible refine Kept.setCell ?_ (by first | exact Nat.le_refl _ | omega | (simp; done) | (simp; omega)) _) | (with_reducible refine Kept.trans ?_ (by with_reducible assumption))))⟩
theorem refToDay_all (c y m d : Int) (w : World) :
    Calls Tryz.prog 40 #[.int .i64 c, .agg #[.int .i64 y, .int .i64 m, .int .i64 d]] w fun e w' => e = .returned (.tuple #[.int .i64 (cN c y m d), .int .i64 (cE c y m d)]) ∧ Kept w w' := by
  rcases cal_cases c with rfl | rfl | ⟨h, h'⟩
  · rw [show cN 1 y m d = tdN 1 y m d from rfl, show cE 1 y m d = tdE 1 y m d from rfl]
    go_enter Tryz.func40, Tryz.ntmps40
    go_wp2_with fail
    (go_at_call 86; refine (jToDay_all _ _ _ _).mono ?_; rintro e w1 ⟨rfl, hk1⟩)
    have hB1_1 := hk1
    obtain ⟨hc1_1, hf1_1⟩ := kept_cells hB1_1
    have hz1_0_1 : w.heap.size < w1.heap.size := by have := hB1_1.size; simp at this; omega
    go_wp2
    go_ret2
    exact ⟨rfl, (by repeat (first | with_reducible exact Kept.refl _ | with_reducible assumption | with_reducible refine Kept.drew ?_ | with_reducible refine Kept.drewN ?_ _ | with_reducible refine Kept.alloc ?_ _ | (with_reducible refine Kept.setCell ?_ (by first | exact Nat.le_refl _ | omega | (simp; done) | (simp; omega)) _) | (with_reducible refine Kept.trans ?_ (by with_reducible assumption))))⟩
  · rw [show cN 2 y m d = tdN 2 y m d from rfl, show cE 2 y m d = tdE 2 y m d from rfl]
    go_enter Tryz.func40, Tryz.ntmps40
    go_wp2_with fail
    (go_at_call 15; refine (rToDay_all _ _ _ _).mono ?_; rintro e w1 ⟨rfl, hk1⟩)
    have hB1_1 := hk1
    obtain ⟨hc1_1, hf1_1⟩ := kept_cells hB1_1
    have hz1_0_1 : w.heap.size < w1.heap.size := by have := hB1_1.size; simp at this; omega
    go_wp2
    go_ret2
    exact ⟨rfl, (by repeat (first | with_reducible exact Kept.refl _ | with_reducible assumption | with_reducible refine Kept.drew ?_ | with_reducible refine Kept.drewN ?_ _ | with_reducible refine Kept.alloc ?_ _ | (with_reducible refine Kept.setCell ?_ (by first | exact Nat.le_refl _ | omega | (simp; done) | (simp; omega)) _) | (with_reducible refine Kept.trans ?_ (by with_reducible assumption))))⟩
  · rw [show cN c y m d = 0 from if_neg h, show cE c y m d = 3 from if_neg h]
    clear h
    rcases h' with h' | h'
    all_goals
      go_enter Tryz.func40, Tryz.ntmps40
      go_wp2
      go_ret2
      exact ⟨rfl, (by repeat (first | with_reducible exact Kept.refl _ | with_reducible assumption | with_reducible refine Kept.drew ?_ | with_reducible refine Kept.drewN ?_ _ | with_reducible refine Kept.alloc ?_ _ | (with_reducible refine Kept.setCell ?_ (by first | exact Nat.le_refl _ | omega | (simp; done) | (simp; omega)) _) | (with_reducible refine Kept.trans ?_ (by with_reducible assumption))))⟩
theorem CFromDay_all (c n y m d e : Int) (w : World) (hT : Tab w) (hf : FdC c n y m d e) :
    Calls Tryz.prog 45 #[.int .i64 c, .int .i64 n] w fun e' w' => e' = .returned (.tuple #[.agg #[.int .i64 y, .int .i64 m, .int .i64 d], .int .i64 e]) ∧ Kept w w' := by
  have KT := Lib.hid (fun w' (k : Kept w w') => hT.kept k)
  clear hT
  rcases cal_cases c with rfl | rfl | ⟨h, h'⟩
  · have hr : FdRel 1 n y m d e := by
      rcases hf with hf | hf
      · exact hf.2
      · exact absurd (.inl rfl) hf.1
    have HR := Lib.hid hr
    clear hf hr
    go_enter Tryz.func45, Tryz.ntmps45
    go_wp2_with fail
    (go_at_call 99; refine (of_1 _).mono ?_; rintro e w1 ⟨rfl, hk1⟩)
    have hB1_1 := hk1
    obtain ⟨hc1_1, hf1_1⟩ := kept_cells hB1_1
    have hz1_0_1 : w.heap.size < w1.heap.size := by have := hB1_1.size; simp at this; omega
    go_wp2_with fail
    (go_at_call 145; refine (JFromDay_all _ _ _ _ _ _ (KT.out _ (by repeat (first | with_reducible exact Kept.refl _ | with_reducible assumption | with_reducible refine Kept.drew ?_ | with_reducible refine Kept.drewN ?_ _ | with_reducible refine Kept.alloc ?_ _ | (with_reducible refine Kept.setCell ?_ (by first | exact Nat.le_refl _ | omega | (simp; done) | (simp; omega)) _) | (with_reducible refine Kept.trans ?_ (by with_reducible assumption))))) HR.out).mono ?_; rintro e w2 ⟨rfl, hk2⟩)
    have hB1_2 := Kept.trans (Kept.alloc hB1_1 _) hk2
    have hB2_2 := hk2
    obtain ⟨hc1_2, hf1_2⟩ := kept_cells hB1_2
    have hz1_0_2 : w.heap.size < w2.heap.size := by have := hB1_2.size; simp at this; omega
    obtain ⟨hc2_2, hf2_2⟩ := kept_cells hB2_2
    have hz2_0_2 : w1.heap.size < w2.heap.size := by have := hB2_2.size; simp at this; omega
    go_wp2
    exact bodyPost_ret (v := .tuple #[.agg #[.int .i64 y, .int .i64 m, .int .i64 d], .int .i64 e]) (by simp [results, Tryz.results45, go_sem, *]) rfl ⟨rfl, (by repeat (first | with_reducible exact Kept.refl _ | with_reducible assumption | with_reducible refine Kept.drew ?_ | with_reducible refine Kept.drewN ?_ _ | with_reducible refine Kept.alloc ?_ _ | (with_reducible refine Kept.setCell ?_ (by first | exact Nat.le_refl _ | omega | (simp; done) | (simp; omega)) _) | (with_reducible refine Kept.trans ?_ (by with_reducible assumption))))⟩
  · have hr : FdRel 2 n y m d e := by
      rcases hf with hf | hf
      · exact hf.2
      · exact absurd (.inr rfl) hf.1
    have HR := Lib.hid hr
    clear hf hr
    go_enter Tryz.func45, Tryz.ntmps45
    go_wp2_with fail
    (go_at_call 99; refine (of_2 _).mono ?_; rintro e w1 ⟨rfl, hk1⟩)
    have hB1_1 := hk1
    obtain ⟨hc1_1, hf1_1⟩ := kept_cells hB1_1
    have hz1_0_1 : w.heap.size < w1.heap.size := by have := hB1_1.size; simp at this; omega
    go_wp2_with fail
    (go_at_call 149; refine (GFromDay_all _ _ _ _ _ _ HR.out).mono ?_; rintro e w2 ⟨rfl, hk2⟩)
    have hB1_2 := Kept.trans (Kept.alloc hB1_1 _) hk2
    have hB2_2 := hk2
    obtain ⟨hc1_2, hf1_2⟩ := kept_cells hB1_2
    have hz1_0_2 : w.heap.size < w2.heap.size := by have := hB1_2.size; simp at this; omega
    obtain ⟨hc2_2, hf2_2⟩ := kept_cells hB2_2
    have hz2_0_2 : w1.heap.size < w2.heap.size := by have := hB2_2.size; simp at this; omega
    go_wp2
    exact bodyPost_ret (v := .tuple #[.agg #[.int .i64 y, .int .i64 m, .int .i64 d], .int .i64 e]) (by simp [results, Tryz.results45, go_sem, *]) rfl ⟨rfl, (by repeat (first | with_reducible exact Kept.refl _ | with_reducible assumption | with_reducible refine Kept.drew ?_ | with_reducible refine Kept.drewN ?_ _ | with_reducible refine Kept.alloc ?_ _ | (with_reducible refine Kept.setCell ?_ (by first | exact Nat.le_refl _ | omega | (simp; done) | (simp; omega)) _) | (with_reducible refine Kept.trans ?_ (by with_reducible assumption))))⟩
  · rcases hf with hf | ⟨_, rfl, rfl, rfl, rfl⟩
    · exact absurd hf.1 h
    · clear h
      go_enter Tryz.func45, Tryz.ntmps45
      go_wp2_with fail
      (go_at_call 99; refine (of_no _ _ h').mono ?_; rintro e w1 ⟨rfl, hk1⟩)
      have hB1_1 := hk1
      obtain ⟨hc1_1, hf1_1⟩ := kept_cells hB1_1
      have hz1_0_1 : w.heap.size < w1.heap.size := by have := hB1_1.size; simp at this; omega
      go_wp2
      exact bodyPost_ret (v := .tuple #[.agg #[.int .i64 0, .int .i64 0, .int .i64 0], .int .i64 3]) (by simp [results, Tryz.results45, go_sem, *]) rfl ⟨rfl, (by repeat (first | with_reducible exact Kept.refl _ | with_reducible assumption | with_reducible refine Kept.drew ?_ | with_reducible refine Kept.drewN ?_ _ | with_reducible refine Kept.alloc ?_ _ | (with_reducible refine Kept.setCell ?_ (by first | exact Nat.le_refl _ | omega | (simp; done) | (simp; omega)) _) | (with_reducible refine Kept.trans ?_ (by with_reducible assumption))))⟩
theorem refFromDay_all (c n y m d e : Int) (w : World) (hf : FdC c n y m d e) :
    Calls Tryz.prog 217 #[.int .i64 c, .int .i64 n] w fun e' w' => e' = .returned (.tuple #[.agg #[.int .i64 y, .int .i64 m, .int .i64 d], .int .i64 e]) ∧ Kept w w' := by
  rcases cal_cases c with rfl | rfl | ⟨h, h'⟩
  · have hr : FdRel 1 n y m d e := by
      rcases hf with hf | hf
      · exact hf.2
      · exact absurd (.inl rfl) hf.1
    have HR := Lib.hid hr
    clear hf hr
    go_enter Tryz.func217, Tryz.ntmps217
    go_wp2_with fail
    (go_at_call 260; refine (jFromDay_all _ _ _ _ _ _ HR.out).mono ?_; rintro e w1 ⟨rfl, hk1⟩)
    have hB1_1 := hk1
    obtain ⟨hc1_1, hf1_1⟩ := kept_cells hB1_1
    have hz1_0_1 : w.heap.size < w1.heap.size := by have := hB1_1.size; simp at this; omega
    go_wp2
    exact bodyPost_ret (v := .tuple #[.agg #[.int .i64 y, .int .i64 m, .int .i64 d], .int .i64 e]) (by simp [results, Tryz.results217, go_sem, *]) rfl ⟨rfl, (by repeat (first | with_reducible exact Kept.refl _ | with_reducible assumption | with_reducible refine Kept.drew ?_ | with_reducible refine Kept.drewN ?_ _ | with_reducible refine Kept.alloc ?_ _ | (with_reducible refine Kept.setCell ?_ (by first | exact Nat.le_refl _ | omega | (simp; done) | (simp; omega)) _) | (with_reducible refine Kept.trans ?_ (by with_reducible assumption))))⟩
  · have hr : FdRel 2 n y m d e := by
      rcases hf with hf | hf
      · exact hf.2
      · exact absurd (.inr rfl) hf.1
    have HR := Lib.hid hr
    clear hf hr
    go_enter Tryz.func217, Tryz.ntmps217
    go_wp2_with fail
    (go_at_call 68; refine (rFromDay_all _ _ _ _ _ _ HR.out).mono ?_; rintro e w1 ⟨rfl, hk1⟩)
    have hB1_1 := hk1
    obtain ⟨hc1_1, hf1_1⟩ := kept_cells hB1_1
    have hz1_0_1 : w.heap.size < w1.heap.size := by have := hB1_1.size; simp at this; omega
    go_wp2
    exact bodyPost_ret (v := .tuple #[.agg #[.int .i64 y, .int .i64 m, .int .i64 d], .int .i64 e]) (by simp [results, Tryz.results217, go_sem, *]) rfl ⟨rfl, (by repeat (first | with_reducible exact Kept.refl _ | with_reducible assumption | with_reducible refine Kept.drew ?_ | with_reducible refine Kept.drewN ?_ _ | with_reducible refine Kept.alloc ?_ _ | (with_reducible refine Kept.setCell ?_ (by first | exact Nat.le_refl _ | omega | (simp; done) | (simp; omega)) _) | (with_reducible refine Kept.trans ?_ (by with_reducible assumption))))⟩
  · rcases hf with hf | ⟨_, rfl, rfl, rfl, rfl⟩
    · exact absurd hf.1 h
    · clear h
      rcases h' with h' | h'
      all_goals
        go_enter Tryz.func217, Tryz.ntmps217
        go_wp2
        exact bodyPost_ret (v := .tuple #[.agg #[.int .i64 0, .int .i64 0, .int .i64 0], .int .i64 3]) (by simp [results, Tryz.results217, go_sem, *]) rfl ⟨rfl, (by repeat (first | with_reducible exact Kept.refl _ | with_reducible assumption | with_reducible refine Kept.drew ?_ | with_reducible refine Kept.drewN ?_ _ | with_reducible refine Kept.alloc ?_ _ | (with_reducible refine Kept.setCell ?_ (by first | exact Nat.le_refl _ | omega | (simp; done) | (simp; omega)) _) | (with_reducible refine Kept.trans ?_ (by with_reducible assumption))))⟩
end Go.Proofs.YtblaphkaklocfaaGreatDoor
/- Contracts: package civil: Shift; days of the week. -/
namespace Go.Proofs.YtblaphkaklocfaaGreatDoor
open Go.ChangeShapes Go.WideShapes Go.ChangeAt Go.RowKit
set_option maxHeartbeats 800000

theorem CToDay_ok (c y m d : Int) (w : World) (hT : Tab w) (h : cE c y m d = 0) :
    Calls Tryz.prog 96 #[.int .i64 c, .agg #[.int .i64 y, .int .i64 m, .int .i64 d]] w fun e w' => e = .returned (.tuple #[.int .i64 (cN c y m d), .int .i64 0]) ∧ Kept w w' := by
  have := CToDay_all c y m d w hT
  rwa [h] at this
theorem refToDay_ok (c y m d : Int) (w : World) (h : cE c y m d = 0) :
    Calls Tryz.prog 40 #[.int .i64 c, .agg #[.int .i64 y, .int .i64 m, .int .i64 d]] w fun e w' => e = .returned (.tuple #[.int .i64 (cN c y m d), .int .i64 0]) ∧ Kept w w' := by
  have := refToDay_all c y m d w
  rwa [h] at this
theorem cE_pos (c y m d : Int) (h : cE c y m d ≠ 0) : 1 ≤ cE c y m d := by
  rcases c_cases c y m d with ⟨_, _, _, h'⟩ | ⟨_, h', _⟩ <;> omega
theorem of_any (c : Int) (w : World) (h : IsCal c) : ∃ v1 v2 v3 v4, Calls Tryz.prog 99 #[.int .i64 c] w fun e w' => e = .returned (.tuple #[.agg #[.func (.func v1) #[] #[], .func (.func v2) #[] #[], .func (.func v3) #[] #[], .func (.func v4) #[] #[]], .int .i64 0]) ∧ Kept w w' := by
  rcases h with rfl | rfl
  · exact ⟨_, _, _, _, of_1 w⟩
  · exact ⟨_, _, _, _, of_2 w⟩

theorem refLeap_any (c y : Int) (w : World) (h : -9223372036854775808 ≤ y) (h' : y ≤ 9223372036854775807) :
    Calls Tryz.prog 36 #[.int .i64 c, .int .i64 y] w fun e w' => e = .returned (.bool (lp c y)) ∧ w = w' := by
  by_cases hc : c = 1
  · subst hc
    go_enter Tryz.func36, Tryz.ntmps36
    go_wp2_with (go_at_call 82; refine (jLeap_any _ _ h h').mono ?_; rintro e w1 ⟨rfl, rfl⟩)
    go_ret
    exact ⟨rfl, rfl⟩
  · have HE := Lib.hid (show lp c y = lp 2 y from by unfold lp; simp [hc])
    have h1 : (c == 1) = false := by simpa using hc
    clear hc
    go_enter Tryz.func36, Tryz.ntmps36
    go_wp2_with (go_at_call 50; refine (rLeap_any _ _ h h').mono ?_; rintro e w1 ⟨rfl, rfl⟩)
    go_ret
    exact ⟨by rw [HE.out]; rfl, rfl⟩
theorem WOf_any (n : Int) (w : World) (h : -4611686018427387904 ≤ n) (h' : n ≤ 4611686018427387904) :
    Calls Tryz.prog 143 #[.int .i64 n] w fun e w' => e = .returned (.int .i64 (n % 7)) ∧ w.drew = w' := by
  go_enter Tryz.func143, Tryz.ntmps143
  go_wp2_with (go_at_call 196; refine (IMod_any _ _ _ h h' (by omega) (by omega)).mono ?_; rintro e w1 ⟨rfl, rfl⟩)
  go_ret
  exact ⟨rfl, rfl⟩
theorem rWOf_any (n : Int) (w : World) (h : -9223372036854775808 ≤ n) (h' : n ≤ 9223372036854775807) :
    Calls Tryz.prog 16 #[.int .i64 n] w fun e w' => e = .returned (.int .i64 (n % 7)) ∧ w = w' := by
  go_enter Tryz.func16, Tryz.ntmps16
  go_wp2_with (go_at_call 51; refine (Mod_any _ _ _ h h' (by omega) (by omega)).mono ?_; rintro e w1 ⟨rfl, rfl⟩)
  go_ret
  exact ⟨rfl, rfl⟩
theorem Shift_all (c y m d n x1 x2 x3 e : Int) (w : World) (hT : Tab w) (hs : ShRel c y m d n x1 x2 x3 e) (hn : -9223372036854775808 ≤ n ∧ n ≤ 9223372036854775807) :
    Calls Tryz.prog 140 #[.int .i64 c, .agg #[.int .i64 y, .int .i64 m, .int .i64 d], .int .i64 n] w fun e' w' => e' = .returned (.tuple #[.agg #[.int .i64 x1, .int .i64 x2, .int .i64 x3], .int .i64 e]) ∧ Kept w w' := by
  have KT := Lib.hid (fun w' (k : Kept w w') => hT.kept k)
  clear hT
  obtain ⟨n1, n2⟩ := cN_bounds c y m d
  obtain ⟨n3, n4⟩ := hn
  rcases hs with ⟨hz, rfl, rfl, rfl, rfl⟩ | ⟨hz, hf⟩
  · have hp := cE_pos c y m d hz
    clear hz
    go_enter Tryz.func140, Tryz.ntmps140
    go_wp2_with fail
    (go_at_call 96; refine (CToDay_all _ _ _ _ _ (KT.out _ (by repeat (first | with_reducible exact Kept.refl _ | with_reducible assumption | with_reducible refine Kept.drew ?_ | with_reducible refine Kept.drewN ?_ _ | with_reducible refine Kept.alloc ?_ _ | (with_reducible refine Kept.setCell ?_ (by first | exact Nat.le_refl _ | omega | (simp; done) | (simp; omega)) _) | (with_reducible refine Kept.trans ?_ (by with_reducible assumption)))))).mono ?_; rintro e w1 ⟨rfl, hk1⟩)
    have hB1_1 := hk1
    obtain ⟨hc1_1, hf1_1⟩ := kept_cells hB1_1
    have hz1_0_1 : w.heap.size < w1.heap.size := by have := hB1_1.size; simp at this; omega
    have hz1_1_1 : w.heap.size + 1 < w1.heap.size := by have := hB1_1.size; simp at this; omega
    go_wp2
    exact bodyPost_ret (v := .tuple #[.agg #[.int .i64 0, .int .i64 0, .int .i64 0], .int .i64 (cE c y m d)]) (by simp [results, Tryz.results140, go_sem, *]) rfl ⟨rfl, (by repeat (first | with_reducible exact Kept.refl _ | with_reducible assumption | with_reducible refine Kept.drew ?_ | with_reducible refine Kept.drewN ?_ _ | with_reducible refine Kept.alloc ?_ _ | (with_reducible refine Kept.setCell ?_ (by first | exact Nat.le_refl _ | omega | (simp; done) | (simp; omega)) _) | (with_reducible refine Kept.trans ?_ (by with_reducible assumption))))⟩
  · have HZ := Lib.hid hz
    by_cases hb : n < -1099511627776 ∨ 1099511627776 < n
    · have hc : IsCal c := by
        rcases c_cases c y m d with ⟨a, _⟩ | ⟨_, _, _, _⟩
        · exact a
        · omega
      have hx : x1 = 0 ∧ x2 = 0 ∧ x3 = 0 ∧ e = 1 := by
        rcases hf with hf | hf
        · exact fd_far c _ _ _ _ _ (by omega) hf.2
        · exact absurd hc hf.1
      obtain ⟨rfl, rfl, rfl, rfl⟩ := hx
      clear hf hz hc
      rcases hb with hb | hb
      all_goals
        go_enter Tryz.func140, Tryz.ntmps140
        go_wp2_with fail
        (go_at_call 96; refine (CToDay_ok _ _ _ _ _ (KT.out _ (by repeat (first | with_reducible exact Kept.refl _ | with_reducible assumption | with_reducible refine Kept.drew ?_ | with_reducible refine Kept.drewN ?_ _ | with_reducible refine Kept.alloc ?_ _ | (with_reducible refine Kept.setCell ?_ (by first | exact Nat.le_refl _ | omega | (simp; done) | (simp; omega)) _) | (with_reducible refine Kept.trans ?_ (by with_reducible assumption))))) HZ.out).mono ?_; rintro e w1 ⟨rfl, hk1⟩)
        have hB1_1 := hk1
        obtain ⟨hc1_1, hf1_1⟩ := kept_cells hB1_1
        have hz1_0_1 : w.heap.size < w1.heap.size := by have := hB1_1.size; simp at this; omega
        have hz1_1_1 : w.heap.size + 1 < w1.heap.size := by have := hB1_1.size; simp at this; omega
        go_wp2
        exact bodyPost_ret (v := .tuple #[.agg #[.int .i64 0, .int .i64 0, .int .i64 0], .int .i64 1]) (by simp [results, Tryz.results140, go_sem, *]) rfl ⟨rfl, (by repeat (first | with_reducible exact Kept.refl _ | with_reducible assumption | with_reducible refine Kept.drew ?_ | with_reducible refine Kept.drewN ?_ _ | with_reducible refine Kept.alloc ?_ _ | (with_reducible refine Kept.setCell ?_ (by first | exact Nat.le_refl _ | omega | (simp; done) | (simp; omega)) _) | (with_reducible refine Kept.trans ?_ (by with_reducible assumption))))⟩
    · have hb1 : -1099511627776 ≤ n := by omega
      have hb2 : n ≤ 1099511627776 := by omega
      have HF := Lib.hid hf
      clear hf hz hb
      go_enter Tryz.func140, Tryz.ntmps140
      go_wp2_with fail
      (go_at_call 96; refine (CToDay_ok _ _ _ _ _ (KT.out _ (by repeat (first | with_reducible exact Kept.refl _ | with_reducible assumption | with_reducible refine Kept.drew ?_ | with_reducible refine Kept.drewN ?_ _ | with_reducible refine Kept.alloc ?_ _ | (with_reducible refine Kept.setCell ?_ (by first | exact Nat.le_refl _ | omega | (simp; done) | (simp; omega)) _) | (with_reducible refine Kept.trans ?_ (by with_reducible assumption))))) HZ.out).mono ?_; rintro e w1 ⟨rfl, hk1⟩)
      have hB1_1 := hk1
      obtain ⟨hc1_1, hf1_1⟩ := kept_cells hB1_1
      have hz1_0_1 : w.heap.size < w1.heap.size := by have := hB1_1.size; simp at this; omega
      have hz1_1_1 : w.heap.size + 1 < w1.heap.size := by have := hB1_1.size; simp at this; omega
      go_wp2_with fail
      (go_at_call 45; refine (CFromDay_all _ _ _ _ _ _ _ (KT.out _ (by repeat (first | with_reducible exact Kept.refl _ | with_reducible assumption | with_reducible refine Kept.drew ?_ | with_reducible refine Kept.drewN ?_ _ | with_reducible refine Kept.alloc ?_ _ | (with_reducible refine Kept.setCell ?_ (by first | exact Nat.le_refl _ | omega | (simp; done) | (simp; omega)) _) | (with_reducible refine Kept.trans ?_ (by with_reducible assumption))))) HF.out).mono ?_; rintro e w2 ⟨rfl, hk2⟩)
      have hB1_2 := Kept.trans hB1_1 hk2
      obtain ⟨hc1_2, hf1_2⟩ := kept_cells hB1_2
      have hz1_0_2 : w.heap.size < w2.heap.size := by have := hB1_2.size; simp at this; omega
      have hz1_1_2 : w.heap.size + 1 < w2.heap.size := by have := hB1_2.size; simp at this; omega
      go_wp2
      exact bodyPost_ret (v := .tuple #[.agg #[.int .i64 x1, .int .i64 x2, .int .i64 x3], .int .i64 e]) (by simp [results, Tryz.results140, go_sem, *]) rfl ⟨rfl, (by repeat (first | with_reducible exact Kept.refl _ | with_reducible assumption | with_reducible refine Kept.drew ?_ | with_reducible refine Kept.drewN ?_ _ | with_reducible refine Kept.alloc ?_ _ | (with_reducible refine Kept.setCell ?_ (by first | exact Nat.le_refl _ | omega | (simp; done) | (simp; omega)) _) | (with_reducible refine Kept.trans ?_ (by with_reducible assumption))))⟩
end Go.Proofs.YtblaphkaklocfaaGreatDoor
/- Contracts: package golden; weekday.OnOrAfter. -/
namespace Go.Proofs.YtblaphkaklocfaaGreatDoor
open Go.ChangeShapes Go.WideShapes Go.ChangeAt Go.RowKit
set_option maxHeartbeats 800000

def glN (y : Int) : Int := y % 19 + 1
def ceN (y : Int) : Int := y / 100 + 1
def soN (y : Int) : Int := 3 * (y / 100 + 1) / 4 - 12
def luN (y : Int) : Int := (8 * (y / 100 + 1) + 5) / 25 - 5
theorem Golden_ok (y : Int) (w : World) (h : 1 ≤ y) (h' : y ≤ 1000000000) :
    Calls Tryz.prog 194 #[.int .i64 y] w fun e w' => e = .returned (.tuple #[.int .i64 (glN y), .int .i64 0]) ∧ Kept w w' := by
  go_enter Tryz.func194, Tryz.ntmps194
  go_wp2
  go_ret2
  exact ⟨rfl, (by repeat (first | with_reducible exact Kept.refl _ | with_reducible assumption | with_reducible refine Kept.drew ?_ | with_reducible refine Kept.drewN ?_ _ | with_reducible refine Kept.alloc ?_ _ | (with_reducible refine Kept.setCell ?_ (by first | exact Nat.le_refl _ | omega | (simp; done) | (simp; omega)) _) | (with_reducible refine Kept.trans ?_ (by with_reducible assumption))))⟩
theorem Golden_no (y : Int) (w : World) (h : y < 1 ∨ 1000000000 < y) :
    Calls Tryz.prog 194 #[.int .i64 y] w fun e w' => e = .returned (.tuple #[.int .i64 0, .int .i64 1]) ∧ Kept w w' := by
  rcases h with h | h
  all_goals
    go_enter Tryz.func194, Tryz.ntmps194
    go_wp2
    go_ret2
    exact ⟨rfl, (by repeat (first | with_reducible exact Kept.refl _ | with_reducible assumption | with_reducible refine Kept.drew ?_ | with_reducible refine Kept.drewN ?_ _ | with_reducible refine Kept.alloc ?_ _ | (with_reducible refine Kept.setCell ?_ (by first | exact Nat.le_refl _ | omega | (simp; done) | (simp; omega)) _) | (with_reducible refine Kept.trans ?_ (by with_reducible assumption))))⟩
theorem Solar_ok (y : Int) (w : World) (h : 1583 ≤ y) (h' : y ≤ 1000000000) :
    Calls Tryz.prog 280 #[.int .i64 y] w fun e w' => e = .returned (.tuple #[.int .i64 (soN y), .int .i64 0]) ∧ Kept w w' := by
  go_enter Tryz.func280, Tryz.ntmps280
  go_wp2
  go_ret2
  exact ⟨rfl, (by repeat (first | with_reducible exact Kept.refl _ | with_reducible assumption | with_reducible refine Kept.drew ?_ | with_reducible refine Kept.drewN ?_ _ | with_reducible refine Kept.alloc ?_ _ | (with_reducible refine Kept.setCell ?_ (by first | exact Nat.le_refl _ | omega | (simp; done) | (simp; omega)) _) | (with_reducible refine Kept.trans ?_ (by with_reducible assumption))))⟩
theorem Solar_no (y : Int) (w : World) (h : y < 1583 ∨ 1000000000 < y) :
    Calls Tryz.prog 280 #[.int .i64 y] w fun e w' => e = .returned (.tuple #[.int .i64 0, .int .i64 1]) ∧ Kept w w' := by
  rcases h with h | h
  all_goals
    go_enter Tryz.func280, Tryz.ntmps280
    go_wp2
    go_ret2
    exact ⟨rfl, (by repeat (first | with_reducible exact Kept.refl _ | with_reducible assumption | with_reducible refine Kept.drew ?_ | with_reducible refine Kept.drewN ?_ _ | with_reducible refine Kept.alloc ?_ _ | (with_reducible refine Kept.setCell ?_ (by first | exact Nat.le_refl _ | omega | (simp; done) | (simp; omega)) _) | (with_reducible refine Kept.trans ?_ (by with_reducible assumption))))⟩
theorem Lunar_ok (y : Int) (w : World) (h : 1583 ≤ y) (h' : y ≤ 1000000000) :
    Calls Tryz.prog 281 #[.int .i64 y] w fun e w' => e = .returned (.tuple #[.int .i64 (luN y), .int .i64 0]) ∧ Kept w w' := by
  go_enter Tryz.func281, Tryz.ntmps281
  go_wp2
  go_ret2
  exact ⟨rfl, (by repeat (first | with_reducible exact Kept.refl _ | with_reducible assumption | with_reducible refine Kept.drew ?_ | with_reducible refine Kept.drewN ?_ _ | with_reducible refine Kept.alloc ?_ _ | (with_reducible refine Kept.setCell ?_ (by first | exact Nat.le_refl _ | omega | (simp; done) | (simp; omega)) _) | (with_reducible refine Kept.trans ?_ (by with_reducible assumption))))⟩
theorem Lunar_no (y : Int) (w : World) (h : y < 1583 ∨ 1000000000 < y) :
    Calls Tryz.prog 281 #[.int .i64 y] w fun e w' => e = .returned (.tuple #[.int .i64 0, .int .i64 1]) ∧ Kept w w' := by
  rcases h with h | h
  all_goals
    go_enter Tryz.func281, Tryz.ntmps281
    go_wp2
    go_ret2
    exact ⟨rfl, (by repeat (first | with_reducible exact Kept.refl _ | with_reducible assumption | with_reducible refine Kept.drew ?_ | with_reducible refine Kept.drewN ?_ _ | with_reducible refine Kept.alloc ?_ _ | (with_reducible refine Kept.setCell ?_ (by first | exact Nat.le_refl _ | omega | (simp; done) | (simp; omega)) _) | (with_reducible refine Kept.trans ?_ (by with_reducible assumption))))⟩
theorem OnOrAfter_ok (n d : Int) (w : World) (h : -1099511627776 ≤ n) (h' : n ≤ 1099511627776) (h1 : 0 ≤ d) (h2 : d < 7) :
    Calls Tryz.prog 98 #[.int .i64 n, .int .i64 d] w fun e w' => e = .returned (.tuple #[.int .i64 (n + (d - n) % 7), .int .i64 0]) ∧ Kept w w' := by
  go_enter Tryz.func98, Tryz.ntmps98
  go_wp2_with (first | (go_at_call 142; go_in) | (go_at_call 143; refine (WOf_any _ _ (by omega) (by omega)).mono ?_; rintro e w1 ⟨rfl, rfl⟩))
  go_ret2
  exact ⟨rfl, (by repeat (first | with_reducible exact Kept.refl _ | with_reducible assumption | with_reducible refine Kept.drew ?_ | with_reducible refine Kept.drewN ?_ _ | with_reducible refine Kept.alloc ?_ _ | (with_reducible refine Kept.setCell ?_ (by first | exact Nat.le_refl _ | omega | (simp; done) | (simp; omega)) _) | (with_reducible refine Kept.trans ?_ (by with_reducible assumption))))⟩
theorem rGolden_ok (y : Int) (w : World) (h : 1 ≤ y) (h' : y ≤ 1000000000) :
    Calls Tryz.prog 84 #[.int .i64 y] w fun e w' => e = .returned (.int .i64 (glN y)) ∧ w = w' := by
  have HE := Lib.hid (show glN y = y - 19 * (y / 19) + 1 from by unfold glN; omega)
  go_enter Tryz.func84, Tryz.ntmps84
  go_wp2
  go_ret
  exact ⟨by rw [HE.out]; rfl, rfl⟩
theorem rSolar_ok (y : Int) (w : World) (h : 1 ≤ y) (h' : y ≤ 1000000000) :
    Calls Tryz.prog 129 #[.int .i64 y] w fun e w' => e = .returned (.int .i64 (soN y)) ∧ w = w' := by
  go_enter Tryz.func129, Tryz.ntmps129
  go_wp2
  go_ret
  exact ⟨rfl, rfl⟩
theorem rLunar_ok (y : Int) (w : World) (h : 1 ≤ y) (h' : y ≤ 1000000000) :
    Calls Tryz.prog 128 #[.int .i64 y] w fun e w' => e = .returned (.int .i64 (luN y)) ∧ w = w' := by
  go_enter Tryz.func128, Tryz.ntmps128
  go_wp2
  go_ret
  exact ⟨rfl, rfl⟩
end Go.Proofs.YtblaphkaklocfaaGreatDoor
/- Plain: the label of a year, the paschal full moon and Easter by the tables. -/
namespace Go.Proofs.YtblaphkaklocfaaGreatDoor

/-- The listed tables lie. -/
def RTab (w : World) : Prop := Tab w ∧ LTab w
theorem RTab.kept {w w' : World} (h : RTab w) (k : Kept w w') : RTab w' := ⟨h.1.kept k, h.2.kept k⟩
/-- The epact of a year. -/
def epR (k y : Int) : Int := if k = 1 then 11 * glN y - 3 else 11 * glN y + 20 + luN y - soN y
def epN (k y : Int) : Int := (epR k y - 1) % 30 + 1
/-- The label of a year. -/
def labN (k y : Int) : Int := if epN k y = 25 ∧ 11 < glN y then 31 else epN k y
theorem epN_bounds (k y : Int) : 1 ≤ epN k y ∧ epN k y ≤ 30 := by unfold epN; omega
theorem labN_bounds (k y : Int) : 1 ≤ labN k y ∧ labN k y ≤ 31 := by have := epN_bounds k y; unfold labN; split <;> omega
/-- The days from 21 March to the full moon whose new moon has the label l. -/
def offL (l : Int) : Int := if l ≤ 23 then 23 - l else if l ≤ 25 then 28 else if l = 31 then 27 else 53 - l
theorem offL_bounds (l : Int) (h : 1 ≤ l) (h' : l ≤ 31) : 0 ≤ offL l ∧ offL l ≤ 28 := by unfold offL; split <;> (try split) <;> (try split) <;> omega
def moonI (k y : Int) : Int := offL (labN k y)
theorem moonI_bounds (k y : Int) : 0 ≤ moonI k y ∧ moonI k y ≤ 28 := by have := labN_bounds k y; exact offL_bounds _ this.1 this.2
/-- The date that is i days from 21 March. -/
def dmo (i : Int) : Int := if i ≤ 10 then 3 else 4
def dda (i : Int) : Int := if i ≤ 10 then 21 + i else i - 10
/-- The number of 21 March. -/
def eqN (k y : Int) : Int := num k y 3 21
theorem cum_3 (b : Bool) : cum b 3 = 59 + if b then 1 else 0 := by cases b <;> decide
theorem cum_4 (b : Bool) : cum b 4 = 90 + if b then 1 else 0 := by cases b <;> decide
theorem eqN_val (k y : Int) : eqN k y = fst k (y + 1) - 286 := by
  unfold eqN num
  rw [cum_3, fst_succ]
  omega
theorem eqN_bounds (k y : Int) (h : 1 ≤ y) (h' : y ≤ 1000000000) : 0 ≤ eqN k y ∧ eqN k y ≤ 365249999999 := by
  have h1 := fst_mono k 1 (y + 1) (by omega)
  have h2 := fst_bounds k (y + 1) (by omega) (by omega)
  have h3 := fst_one k
  rw [eqN_val]
  split at h3 <;> omega
theorem day_ok (k y i : Int) (h : 1 ≤ y) (h' : y ≤ 1000000000) (h1 : -20 ≤ i) (h2 : i ≤ 40) : OkD k y (dmo i) (dda i) ∧ num k y (dmo i) (dda i) = eqN k y + i := by
  have m3 : mlen (lp k y) 3 = 31 := by cases lp k y <;> decide
  have m4 : mlen (lp k y) 4 = 30 := by cases lp k y <;> decide
  unfold dmo dda
  by_cases hi : i ≤ 10
  · rw [if_pos hi, if_pos hi]
    refine ⟨⟨h, h', by omega, by omega, by omega, by omega⟩, ?_⟩
    unfold eqN num
    omega
  · rw [if_neg hi, if_neg hi]
    refine ⟨⟨h, h', by omega, by omega, by omega, by omega⟩, ?_⟩
    unfold eqN num
    rw [cum_3, cum_4]
    omega
theorem first_all : ∀ l : Fin 32, ∀ i : Fin 29, 1 ≤ l.val → bears (dmo ((i.val : Int) - 13)) (dda ((i.val : Int) - 13)) (l.val : Int) = decide ((i.val : Int) = offL (l.val : Int)) := by decide +kernel
theorem first_ok (l i : Int) (h : 1 ≤ l) (h' : l ≤ 31) (h1 : 0 ≤ i) (h2 : i ≤ 28) : bears (dmo (i - 13)) (dda (i - 13)) l = decide (i = offL l) := by
  have := first_all ⟨l.toNat, by omega⟩ ⟨i.toNat, by omega⟩ (by show 1 ≤ l.toNat; omega)
  simp only [Int.toNat_of_nonneg (show 0 ≤ l by omega), Int.toNat_of_nonneg (show 0 ≤ i by omega)] at this
  exact this
/-- Easter, by the tables, as days from 21 March. -/
def easI (k y : Int) : Int := moonI k y + 1 + (0 - (eqN k y + moonI k y + 1)) % 7
def esN (k y : Int) : Int := eqN k y + moonI k y + 1 + (0 - (eqN k y + moonI k y + 1)) % 7
theorem easI_bounds (k y : Int) : 1 ≤ easI k y ∧ easI k y ≤ 35 ∧ moonI k y < easI k y ∧ easI k y ≤ moonI k y + 7 := by
  have := moonI_bounds k y
  unfold easI
  omega
theorem esN_val (k y : Int) : esN k y = eqN k y + easI k y := by unfold esN easI; omega
theorem esN_sunday (k y : Int) : esN k y % 7 = 0 := by unfold esN; omega
end Go.Proofs.YtblaphkaklocfaaGreatDoor

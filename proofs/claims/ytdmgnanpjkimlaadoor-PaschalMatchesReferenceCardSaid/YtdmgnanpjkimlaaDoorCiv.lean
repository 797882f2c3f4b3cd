/- Contracts: package civil and its reference: numbers and dates. -/
import Derived.Test.YtdmgnanpjkimlaaDoorCiv0
import Derived.Test.YtdmgnanpjkimlaaDoorJul2
import Derived.Test.YtdmgnanpjkimlaaDoorRefJ
import Derived.Laws.EntriesVeiled
set_option linter.unusedSimpArgs false
set_option linter.unusedVariables false
set_option linter.unusedSectionVars false
namespace Go.Proofs.YtdmgnanpjkimlaaDoor
open Go.ChangeShapes Go.WideShapes Go.ChangeAt Go.RowKit
set_option maxHeartbeats 800000

theorem GToDay_all (y m d : Int) (w : World) :
    Calls Tryd.prog 51 #[.agg #[.int .i64 y, .int .i64 m, .int .i64 d]] w fun e w' => e = .returned (.tuple #[.int .i64 (tdN 2 y m d), .int .i64 (tdE 2 y m d)]) ∧ Kept w w' := by
  rcases td_cases 2 y m d with ⟨h, e1, e2⟩ | ⟨⟨h1, h2, h⟩, e1, e2⟩ | ⟨h, e1, e2⟩
  · rw [e1, e2]; exact ToDay_range _ _ _ _ h
  · rw [e1, e2]; exact ToDay_date _ _ _ _ h1 h2 h
  · rw [e1, e2]; exact ToDay_ok _ _ _ _ h
theorem rToDay_all (y m d : Int) (w : World) :
    Calls Tryd.prog 27 #[.agg #[.int .i64 y, .int .i64 m, .int .i64 d]] w fun e w' => e = .returned (.tuple #[.int .i64 (tdN 2 y m d), .int .i64 (tdE 2 y m d)]) ∧ Kept w w' := by
  rcases td_cases 2 y m d with ⟨h, e1, e2⟩ | ⟨⟨h1, h2, h⟩, e1, e2⟩ | ⟨h, e1, e2⟩
  · rw [e1, e2]; exact rToDay_range _ _ _ _ h
  · rw [e1, e2]; exact rToDay_date _ _ _ _ h1 h2 h
  · rw [e1, e2]; exact rToDay_ok _ _ _ _ h
theorem JToDay_all (y m d : Int) (w : World) (hT : Tab w) :
    Calls Tryd.prog 47 #[.agg #[.int .i64 y, .int .i64 m, .int .i64 d]] w fun e w' => e = .returned (.tuple #[.int .i64 (tdN 1 y m d), .int .i64 (tdE 1 y m d)]) ∧ Kept w w' := by
  rcases td_cases 1 y m d with ⟨h, e1, e2⟩ | ⟨⟨h1, h2, h⟩, e1, e2⟩ | ⟨h, e1, e2⟩
  · rw [e1, e2]; exact JToDay_range _ _ _ _ h
  · rw [e1, e2]; exact JToDay_date _ _ _ _ hT h1 h2 h
  · rw [e1, e2]; exact JToDay_ok _ _ _ _ hT h
theorem jToDay_all (y m d : Int) (w : World) :
    Calls Tryd.prog 26 #[.agg #[.int .i64 y, .int .i64 m, .int .i64 d]] w fun e w' => e = .returned (.tuple #[.int .i64 (tdN 1 y m d), .int .i64 (tdE 1 y m d)]) ∧ Kept w w' := by
  rcases td_cases 1 y m d with ⟨h, e1, e2⟩ | ⟨⟨h1, h2, h⟩, e1, e2⟩ | ⟨h, e1, e2⟩
  · rw [e1, e2]; exact jToDay_range _ _ _ _ h
  · rw [e1, e2]; exact jToDay_date _ _ _ _ h1 h2 h
  · rw [e1, e2]; exact jToDay_ok _ _ _ _ h
theorem GFromDay_all (n y m d e : Int) (w : World) (h : FdRel 2 n y m d e) :
    Calls Tryd.prog 52 #[.int .i64 n] w fun e' w' => e' = .returned (.tuple #[.agg #[.int .i64 y, .int .i64 m, .int .i64 d], .int .i64 e]) ∧ Kept w w' := by
  rcases h with ⟨h, rfl, rfl, rfl, rfl⟩ | ⟨h, h', rfl⟩
  · rw [fst_one, fst_top, if_neg (by decide), if_neg (by decide)] at h; exact FromDay_no _ _ h
  · exact FromDay_ok _ _ _ _ _ h h'
theorem rFromDay_all (n y m d e : Int) (w : World) (h : FdRel 2 n y m d e) :
    Calls Tryd.prog 29 #[.int .i64 n] w fun e' w' => e' = .returned (.tuple #[.agg #[.int .i64 y, .int .i64 m, .int .i64 d], .int .i64 e]) ∧ Kept w w' := by
  rcases h with ⟨h, rfl, rfl, rfl, rfl⟩ | ⟨h, h', rfl⟩
  · rw [fst_one, fst_top, if_neg (by decide), if_neg (by decide)] at h; exact rFromDay_no _ _ h
  · exact rFromDay_ok _ _ _ _ _ h h'
theorem JFromDay_all (n y m d e : Int) (w : World) (hT : Tab w) (h : FdRel 1 n y m d e) :
    Calls Tryd.prog 48 #[.int .i64 n] w fun e' w' => e' = .returned (.tuple #[.agg #[.int .i64 y, .int .i64 m, .int .i64 d], .int .i64 e]) ∧ Kept w w' := by
  rcases h with ⟨h, rfl, rfl, rfl, rfl⟩ | ⟨h, h', rfl⟩
  · rw [fst_one, fst_top, if_pos rfl, if_pos rfl] at h; exact JFromDay_no _ _ h
  · exact JFromDay_ok _ _ _ _ _ hT h h'
theorem jFromDay_all (n y m d e : Int) (w : World) (h : FdRel 1 n y m d e) :
    Calls Tryd.prog 28 #[.int .i64 n] w fun e' w' => e' = .returned (.tuple #[.agg #[.int .i64 y, .int .i64 m, .int .i64 d], .int .i64 e]) ∧ Kept w w' := by
  rcases h with ⟨h, rfl, rfl, rfl, rfl⟩ | ⟨h, h', rfl⟩
  · rw [fst_one, fst_top, if_pos rfl, if_pos rfl] at h; exact jFromDay_no _ _ h
  · exact jFromDay_ok _ _ _ _ _ h h'

theorem of_1 (w : World) : Calls Tryd.prog 30 #[.int .i64 1] w fun e w' => e = .returned (.tuple #[.agg #[.func (.func 47) #[] #[], .func (.func 48) #[] #[], .func (.func 49) #[] #[], .func (.func 50) #[] #[]], .int .i64 0]) ∧ Kept w w' := by
  go_enter Tryd.func30, Tryd.ntmps30
  go_wp2
  exact bodyPost_ret (v := .tuple #[.agg #[.func (.func 47) #[] #[], .func (.func 48) #[] #[], .func (.func 49) #[] #[], .func (.func 50) #[] #[]], .int .i64 0]) (by simp [results, Tryd.results30, go_sem, *]) rfl ⟨rfl, (by repeat (first | with_reducible exact Kept.refl _ | with_reducible assumption | with_reducible refine Kept.drew ?_ | with_reducible refine Kept.drewN ?_ _ | with_reducible refine Kept.alloc ?_ _ | (with_reducible refine Kept.setCell ?_ (by first | exact Nat.le_refl _ | omega | (simp; done) | (simp; omega)) _) | (with_reducible refine Kept.trans ?_ (by with_reducible assumption))))⟩
theorem of_2 (w : World) : Calls Tryd.prog 30 #[.int .i64 2] w fun e w' => e = .returned (.tuple #[.agg #[.func (.func 51) #[] #[], .func (.func 52) #[] #[], .func (.func 53) #[] #[], .func (.func 54) #[] #[]], .int .i64 0]) ∧ Kept w w' := by
  go_enter Tryd.func30, Tryd.ntmps30
  go_wp2
  exact bodyPost_ret (v := .tuple #[.agg #[.func (.func 51) #[] #[], .func (.func 52) #[] #[], .func (.func 53) #[] #[], .func (.func 54) #[] #[]], .int .i64 0]) (by simp [results, Tryd.results30, go_sem, *]) rfl ⟨rfl, (by repeat (first | with_reducible exact Kept.refl _ | with_reducible assumption | with_reducible refine Kept.drew ?_ | with_reducible refine Kept.drewN ?_ _ | with_reducible refine Kept.alloc ?_ _ | (with_reducible refine Kept.setCell ?_ (by first | exact Nat.le_refl _ | omega | (simp; done) | (simp; omega)) _) | (with_reducible refine Kept.trans ?_ (by with_reducible assumption))))⟩
theorem of_no (c : Int) (w : World) (h : c < 1 ∨ 2 < c) : Calls Tryd.prog 30 #[.int .i64 c] w fun e w' => e = .returned (.tuple #[.agg #[.nilFunc, .nilFunc, .nilFunc, .nilFunc], .int .i64 3]) ∧ Kept w w' := by
  rcases h with h | h
  all_goals
    go_enter Tryd.func30, Tryd.ntmps30
    go_wp2
    exact bodyPost_ret (v := .tuple #[.agg #[.nilFunc, .nilFunc, .nilFunc, .nilFunc], .int .i64 3]) (by simp [results, Tryd.results30, go_sem, *]) rfl ⟨rfl, (by repeat (first | with_reducible exact Kept.refl _ | with_reducible assumption | with_reducible refine Kept.drew ?_ | with_reducible refine Kept.drewN ?_ _ | with_reducible refine Kept.alloc ?_ _ | (with_reducible refine Kept.setCell ?_ (by first | exact Nat.le_refl _ | omega | (simp; done) | (simp; omega)) _) | (with_reducible refine Kept.trans ?_ (by with_reducible assumption))))⟩

theorem CToDay_all (c y m d : Int) (w : World) (hT : Tab w) :
    Calls Tryd.prog 18 #[.int .i64 c, .agg #[.int .i64 y, .int .i64 m, .int .i64 d]] w fun e w' => e = .returned (.tuple #[.int .i64 (cN c y m d), .int .i64 (cE c y m d)]) ∧ Kept w w' := by
  have KT := Lib.hid (fun w' (k : Kept w w') => hT.kept k)
  clear hT
  rcases cal_cases c with rfl | rfl | ⟨h, h'⟩
  · rw [show cN 1 y m d = tdN 1 y m d from rfl, show cE 1 y m d = tdE 1 y m d from rfl]
    go_enter Tryd.func18, Tryd.ntmps18
    go_wp2_with fail
    (go_at_call 30; refine (of_1 _).mono ?_; rintro e w1 ⟨rfl, hk1⟩)
    have hB1_1 := hk1
    obtain ⟨hc1_1, hf1_1⟩ := kept_cells hB1_1
    have hz1_0_1 : w.heap.size < w1.heap.size := by have := hB1_1.size; simp at this; omega
    go_wp2_with fail
    (go_at_call 47; refine (JToDay_all _ _ _ _ (KT.out _ (by repeat (first | with_reducible exact Kept.refl _ | with_reducible assumption | with_reducible refine Kept.drew ?_ | with_reducible refine Kept.drewN ?_ _ | with_reducible refine Kept.alloc ?_ _ | (with_reducible refine Kept.setCell ?_ (by first | exact Nat.le_refl _ | omega | (simp; done) | (simp; omega)) _) | (with_reducible refine Kept.trans ?_ (by with_reducible assumption)))))).mono ?_; rintro e w2 ⟨rfl, hk2⟩)
    have hB1_2 := Kept.trans (Kept.alloc hB1_1 _) hk2
    have hB2_2 := hk2
    obtain ⟨hc1_2, hf1_2⟩ := kept_cells hB1_2
    have hz1_0_2 : w.heap.size < w2.heap.size := by have := hB1_2.size; simp at this; omega
    obtain ⟨hc2_2, hf2_2⟩ := kept_cells hB2_2
    have hz2_0_2 : w1.heap.size < w2.heap.size := by have := hB2_2.size; simp at this; omega
    go_wp2
    go_ret2
    exact ⟨rfl, (by repeat (first | with_reducible exact Kept.refl _ | with_reducible assumption | with_reducible refine Kept.drew ?_ | with_reducible refine Kept.drewN ?_ _ | with_reducible refine Kept.alloc ?_ _ | (with_reducible refine Kept.setCell ?_ (by first | exact Nat.le_refl _ | omega | (simp; done) | (simp; omega)) _) | (with_reducible refine Kept.trans ?_ (by with_reducible assumption))))⟩
  · rw [show cN 2 y m d = tdN 2 y m d from rfl, show cE 2 y m d = tdE 2 y m d from rfl]
    go_enter Tryd.func18, Tryd.ntmps18
    go_wp2_with fail
    (go_at_call 30; refine (of_2 _).mono ?_; rintro e w1 ⟨rfl, hk1⟩)
    have hB1_1 := hk1
    obtain ⟨hc1_1, hf1_1⟩ := kept_cells hB1_1
    have hz1_0_1 : w.heap.size < w1.heap.size := by have := hB1_1.size; simp at this; omega
    go_wp2_with fail
    (go_at_call 51; refine (GToDay_all _ _ _ _).mono ?_; rintro e w2 ⟨rfl, hk2⟩)
    have hB1_2 := Kept.trans (Kept.alloc hB1_1 _) hk2
    have hB2_2 := hk2
    obtain ⟨hc1_2, hf1_2⟩ := kept_cells hB1_2
    have hz1_0_2 : w.heap.size < w2.heap.size := by have := hB1_2.size; simp at this; omega
    obtain ⟨hc2_2, hf2_2⟩ := kept_cells hB2_2
    have hz2_0_2 : w1.heap.size < w2.heap.size := by have := hB2_2.size; simp at this; omega
    go_wp2
    go_ret2
    exact ⟨rfl, (by repeat (first | with_reducible exact Kept.refl _ | with_reducible assumption | with_reducible refine Kept.drew ?_ | with_reducible refine Kept.drewN ?_ _ | with_reducible refine Kept.alloc ?_ _ | (with_reducible refine Kept.setCell ?_ (by first | exact Nat.le_refl _ | omega | (simp; done) | (simp; omega)) _) | (with_reducible refine Kept.trans ?_ (by with_reducible assumption))))⟩
  · rw [show cN c y m d = 0 from if_neg h, show cE c y m d = 3 from if_neg h]
    clear h
    go_enter Tryd.func18, Tryd.ntmps18
    go_wp2_with fail
    (go_at_call 30; refine (of_no _ _ h').mono ?_; rintro e w1 ⟨rfl, hk1⟩)
    have hB1_1 := hk1
    obtain ⟨hc1_1, hf1_1⟩ := kept_cells hB1_1
    have hz1_0_1 : w.heap.size < w1.heap.size := by have := hB1_1.size; simp at this; omega
    go_wp2
    go_ret2
    exact ⟨rfl, (by repeat (first | with_reducible exact Kept.refl _ | with_reducible assumption | with_reducible refine Kept.drew ?_ | with_reducible refine Kept.drewN ?_ _ | with_reducible refine Kept.alloc ?_ _ | (with_reducible refine Kept.setCell ?_ (by first | exact Nat.le_refl _ | omega | (simp; done) | (simp; omega)) _) | (with_reducible refine Kept.trans ?_ (by with_reducible assumption))))⟩
theorem refToDay_all (c y m d : Int) (w : World) :
    Calls Tryd.prog 16 #[.int .i64 c, .agg #[.int .i64 y, .int .i64 m, .int .i64 d]] w fun e w' => e = .returned (.tuple #[.int .i64 (cN c y m d), .int .i64 (cE c y m d)]) ∧ Kept w w' := by
  rcases cal_cases c with rfl | rfl | ⟨h, h'⟩
  · rw [show cN 1 y m d = tdN 1 y m d from rfl, show cE 1 y m d = tdE 1 y m d from rfl]
    go_enter Tryd.func16, Tryd.ntmps16
    go_wp2_with fail
    (go_at_call 26; refine (jToDay_all _ _ _ _).mono ?_; rintro e w1 ⟨rfl, hk1⟩)
    have hB1_1 := hk1
    obtain ⟨hc1_1, hf1_1⟩ := kept_cells hB1_1
    have hz1_0_1 : w.heap.size < w1.heap.size := by have := hB1_1.size; simp at this; omega
    go_wp2
    go_ret2
    exact ⟨rfl, (by repeat (first | with_reducible exact Kept.refl _ | with_reducible assumption | with_reducible refine Kept.drew ?_ | with_reducible refine Kept.drewN ?_ _ | with_reducible refine Kept.alloc ?_ _ | (with_reducible refine Kept.setCell ?_ (by first | exact Nat.le_refl _ | omega | (simp; done) | (simp; omega)) _) | (with_reducible refine Kept.trans ?_ (by with_reducible assumption))))⟩
  · rw [show cN 2 y m d = tdN 2 y m d from rfl, show cE 2 y m d = tdE 2 y m d from rfl]
    go_enter Tryd.func16, Tryd.ntmps16
    go_wp2_with fail
    (go_at_call 27; refine (rToDay_all _ _ _ _).mono ?_; rintro e w1 ⟨rfl, hk1⟩)
    have hB1_1 := hk1
    obtain ⟨hc1_1, hf1_1⟩ := kept_cells hB1_1
    have hz1_0_1 : w.heap.size < w1.heap.size := by have := hB1_1.size; simp at this; omega
    go_wp2
    go_ret2
    exact ⟨rfl, (by repeat (first | with_reducible exact Kept.refl _ | with_reducible assumption | with_reducible refine Kept.drew ?_ | with_reducible refine Kept.drewN ?_ _ | with_reducible refine Kept.alloc ?_ _ | (with_reducible refine Kept.setCell ?_ (by first | exact Nat.le_refl _ | omega | (simp; done) | (simp; omega)) _) | (with_reducible refine Kept.trans ?_ (by with_reducible assumption))))⟩
  · rw [show cN c y m d = 0 from if_neg h, show cE c y m d = 3 from if_neg h]
    clear h
    rcases h' with h' | h'
    all_goals
      go_enter Tryd.func16, Tryd.ntmps16
      go_wp2
      go_ret2
      exact ⟨rfl, (by repeat (first | with_reducible exact Kept.refl _ | with_reducible assumption | with_reducible refine Kept.drew ?_ | with_reducible refine Kept.drewN ?_ _ | with_reducible refine Kept.alloc ?_ _ | (with_reducible refine Kept.setCell ?_ (by first | exact Nat.le_refl _ | omega | (simp; done) | (simp; omega)) _) | (with_reducible refine Kept.trans ?_ (by with_reducible assumption))))⟩
theorem CFromDay_all (c n y m d e : Int) (w : World) (hT : Tab w) (hf : FdC c n y m d e) :
    Calls Tryd.prog 25 #[.int .i64 c, .int .i64 n] w fun e' w' => e' = .returned (.tuple #[.agg #[.int .i64 y, .int .i64 m, .int .i64 d], .int .i64 e]) ∧ Kept w w' := by
  have KT := Lib.hid (fun w' (k : Kept w w') => hT.kept k)
  clear hT
  rcases cal_cases c with rfl | rfl | ⟨h, h'⟩
  · have hr : FdRel 1 n y m d e := by
      rcases hf with hf | hf
      · exact hf.2
      · exact absurd (.inl rfl) hf.1
    have HR := Lib.hid hr
    clear hf hr
    go_enter Tryd.func25, Tryd.ntmps25
    go_wp2_with fail
    (go_at_call 30; refine (of_1 _).mono ?_; rintro e w1 ⟨rfl, hk1⟩)
    have hB1_1 := hk1
    obtain ⟨hc1_1, hf1_1⟩ := kept_cells hB1_1
    have hz1_0_1 : w.heap.size < w1.heap.size := by have := hB1_1.size; simp at this; omega
    go_wp2_with fail
    (go_at_call 48; refine (JFromDay_all _ _ _ _ _ _ (KT.out _ (by repeat (first | with_reducible exact Kept.refl _ | with_reducible assumption | with_reducible refine Kept.drew ?_ | with_reducible refine Kept.drewN ?_ _ | with_reducible refine Kept.alloc ?_ _ | (with_reducible refine Kept.setCell ?_ (by first | exact Nat.le_refl _ | omega | (simp; done) | (simp; omega)) _) | (with_reducible refine Kept.trans ?_ (by with_reducible assumption))))) HR.out).mono ?_; rintro e w2 ⟨rfl, hk2⟩)
    have hB1_2 := Kept.trans (Kept.alloc hB1_1 _) hk2
    have hB2_2 := hk2
    obtain ⟨hc1_2, hf1_2⟩ := kept_cells hB1_2
    have hz1_0_2 : w.heap.size < w2.heap.size := by have := hB1_2.size; simp at this; omega
    obtain ⟨hc2_2, hf2_2⟩ := kept_cells hB2_2
    have hz2_0_2 : w1.heap.size < w2.heap.size := by have := hB2_2.size; simp at this; omega
    go_wp2
    exact bodyPost_ret (v := .tuple #[.agg #[.int .i64 y, .int .i64 m, .int .i64 d], .int .i64 e]) (by simp [results, Tryd.results25, go_sem, *]) rfl ⟨rfl, (by repeat (first | with_reducible exact Kept.refl _ | with_reducible assumption | with_reducible refine Kept.drew ?_ | with_reducible refine Kept.drewN ?_ _ | with_reducible refine Kept.alloc ?_ _ | (with_reducible refine Kept.setCell ?_ (by first | exact Nat.le_refl _ | omega | (simp; done) | (simp; omega)) _) | (with_reducible refine Kept.trans ?_ (by with_reducible assumption))))⟩
  · have hr : FdRel 2 n y m d e := by
      rcases hf with hf | hf
      · exact hf.2
      · exact absurd (.inr rfl) hf.1
    have HR := Lib.hid hr
    clear hf hr
    go_enter Tryd.func25, Tryd.ntmps25
    go_wp2_with fail
    (go_at_call 30; refine (of_2 _).mono ?_; rintro e w1 ⟨rfl, hk1⟩)
    have hB1_1 := hk1
    obtain ⟨hc1_1, hf1_1⟩ := kept_cells hB1_1
    have hz1_0_1 : w.heap.size < w1.heap.size := by have := hB1_1.size; simp at this; omega
    go_wp2_with fail
    (go_at_call 52; refine (GFromDay_all _ _ _ _ _ _ HR.out).mono ?_; rintro e w2 ⟨rfl, hk2⟩)
    have hB1_2 := Kept.trans (Kept.alloc hB1_1 _) hk2
    have hB2_2 := hk2
    obtain ⟨hc1_2, hf1_2⟩ := kept_cells hB1_2
    have hz1_0_2 : w.heap.size < w2.heap.size := by have := hB1_2.size; simp at this; omega
    obtain ⟨hc2_2, hf2_2⟩ := kept_cells hB2_2
    have hz2_0_2 : w1.heap.size < w2.heap.size := by have := hB2_2.size; simp at this; omega
    go_wp2
    exact bodyPost_ret (v := .tuple #[.agg #[.int .i64 y, .int .i64 m, .int .i64 d], .int .i64 e]) (by simp [results, Tryd.results25, go_sem, *]) rfl ⟨rfl, (by repeat (first | with_reducible exact Kept.refl _ | with_reducible assumption | with_reducible refine Kept.drew ?_ | with_reducible refine Kept.drewN ?_ _ | with_reducible refine Kept.alloc ?_ _ | (with_reducible refine Kept.setCell ?_ (by first | exact Nat.le_refl _ | omega | (simp; done) | (simp; omega)) _) | (with_reducible refine Kept.trans ?_ (by with_reducible assumption))))⟩
  · rcases hf with hf | ⟨_, rfl, rfl, rfl, rfl⟩
    · exact absurd hf.1 h
    · clear h
      go_enter Tryd.func25, Tryd.ntmps25
      go_wp2_with fail
      (go_at_call 30; refine (of_no _ _ h').mono ?_; rintro e w1 ⟨rfl, hk1⟩)
      have hB1_1 := hk1
      obtain ⟨hc1_1, hf1_1⟩ := kept_cells hB1_1
      have hz1_0_1 : w.heap.size < w1.heap.size := by have := hB1_1.size; simp at this; omega
      go_wp2
      exact bodyPost_ret (v := .tuple #[.agg #[.int .i64 0, .int .i64 0, .int .i64 0], .int .i64 3]) (by simp [results, Tryd.results25, go_sem, *]) rfl ⟨rfl, (by repeat (first | with_reducible exact Kept.refl _ | with_reducible assumption | with_reducible refine Kept.drew ?_ | with_reducible refine Kept.drewN ?_ _ | with_reducible refine Kept.alloc ?_ _ | (with_reducible refine Kept.setCell ?_ (by first | exact Nat.le_refl _ | omega | (simp; done) | (simp; omega)) _) | (with_reducible refine Kept.trans ?_ (by with_reducible assumption))))⟩
theorem refFromDay_all (c n y m d e : Int) (w : World) (hf : FdC c n y m d e) :
    Calls Tryd.prog 17 #[.int .i64 c, .int .i64 n] w fun e' w' => e' = .returned (.tuple #[.agg #[.int .i64 y, .int .i64 m, .int .i64 d], .int .i64 e]) ∧ Kept w w' := by
  rcases cal_cases c with rfl | rfl | ⟨h, h'⟩
  · have hr : FdRel 1 n y m d e := by
      rcases hf with hf | hf
      · exact hf.2
      · exact absurd (.inl rfl) hf.1
    have HR := Lib.hid hr
    clear hf hr
    go_enter Tryd.func17, Tryd.ntmps17
    go_wp2_with fail
    (go_at_call 28; refine (jFromDay_all _ _ _ _ _ _ HR.out).mono ?_; rintro e w1 ⟨rfl, hk1⟩)
    have hB1_1 := hk1
    obtain ⟨hc1_1, hf1_1⟩ := kept_cells hB1_1
    have hz1_0_1 : w.heap.size < w1.heap.size := by have := hB1_1.size; simp at this; omega
    go_wp2
    exact bodyPost_ret (v := .tuple #[.agg #[.int .i64 y, .int .i64 m, .int .i64 d], .int .i64 e]) (by simp [results, Tryd.results17, go_sem, *]) rfl ⟨rfl, (by repeat (first | with_reducible exact Kept.refl _ | with_reducible assumption | with_reducible refine Kept.drew ?_ | with_reducible refine Kept.drewN ?_ _ | with_reducible refine Kept.alloc ?_ _ | (with_reducible refine Kept.setCell ?_ (by first | exact Nat.le_refl _ | omega | (simp; done) | (simp; omega)) _) | (with_reducible refine Kept.trans ?_ (by with_reducible assumption))))⟩
  · have hr : FdRel 2 n y m d e := by
      rcases hf with hf | hf
      · exact hf.2
      · exact absurd (.inr rfl) hf.1
    have HR := Lib.hid hr
    clear hf hr
    go_enter Tryd.func17, Tryd.ntmps17
    go_wp2_with fail
    (go_at_call 29; refine (rFromDay_all _ _ _ _ _ _ HR.out).mono ?_; rintro e w1 ⟨rfl, hk1⟩)
    have hB1_1 := hk1
    obtain ⟨hc1_1, hf1_1⟩ := kept_cells hB1_1
    have hz1_0_1 : w.heap.size < w1.heap.size := by have := hB1_1.size; simp at this; omega
    go_wp2
    exact bodyPost_ret (v := .tuple #[.agg #[.int .i64 y, .int .i64 m, .int .i64 d], .int .i64 e]) (by simp [results, Tryd.results17, go_sem, *]) rfl ⟨rfl, (by repeat (first | with_reducible exact Kept.refl _ | with_reducible assumption | with_reducible refine Kept.drew ?_ | with_reducible refine Kept.drewN ?_ _ | with_reducible refine Kept.alloc ?_ _ | (with_reducible refine Kept.setCell ?_ (by first | exact Nat.le_refl _ | omega | (simp; done) | (simp; omega)) _) | (with_reducible refine Kept.trans ?_ (by with_reducible assumption))))⟩
  · rcases hf with hf | ⟨_, rfl, rfl, rfl, rfl⟩
    · exact absurd hf.1 h
    · clear h
      rcases h' with h' | h'
      all_goals
        go_enter Tryd.func17, Tryd.ntmps17
        go_wp2
        exact bodyPost_ret (v := .tuple #[.agg #[.int .i64 0, .int .i64 0, .int .i64 0], .int .i64 3]) (by simp [results, Tryd.results17, go_sem, *]) rfl ⟨rfl, (by repeat (first | with_reducible exact Kept.refl _ | with_reducible assumption | with_reducible refine Kept.drew ?_ | with_reducible refine Kept.drewN ?_ _ | with_reducible refine Kept.alloc ?_ _ | (with_reducible refine Kept.setCell ?_ (by first | exact Nat.le_refl _ | omega | (simp; done) | (simp; omega)) _) | (with_reducible refine Kept.trans ?_ (by with_reducible assumption))))⟩
end Go.Proofs.YtdmgnanpjkimlaaDoor

/- Contracts: package civil and its reference: numbers and dates. -/
import Derived.Test.YtekgaihdfnhkpaaCiv0
import Derived.Test.YtekgaihdfnhkpaaJul2
import Derived.Test.YtekgaihdfnhkpaaRefJ
import Derived.Laws.EntriesVeiled
set_option linter.unusedSimpArgs false
set_option linter.unusedVariables false
set_option linter.unusedSectionVars false
namespace Go.Proofs.Ytekgaihdfnhkpaa
open Go.ChangeShapes Go.WideShapes Go.ChangeAt Go.RowKit
set_option maxHeartbeats 800000

theorem rToDay_all (y m d : Int) (w : World) :
    Calls Try.prog 53 #[.agg #[.int .i64 y, .int .i64 m, .int .i64 d]] w fun e w' => e = .returned (.tuple #[.int .i64 (tdN 2 y m d), .int .i64 (tdE 2 y m d)]) ∧ Kept w w' := by
  rcases td_cases 2 y m d with ⟨h, e1, e2⟩ | ⟨⟨h1, h2, h⟩, e1, e2⟩ | ⟨h, e1, e2⟩
  · rw [e1, e2]; exact rToDay_range _ _ _ _ h
  · rw [e1, e2]; exact rToDay_date _ _ _ _ h1 h2 h
  · rw [e1, e2]; exact rToDay_ok _ _ _ _ h
theorem jToDay_all (y m d : Int) (w : World) :
    Calls Try.prog 52 #[.agg #[.int .i64 y, .int .i64 m, .int .i64 d]] w fun e w' => e = .returned (.tuple #[.int .i64 (tdN 1 y m d), .int .i64 (tdE 1 y m d)]) ∧ Kept w w' := by
  rcases td_cases 1 y m d with ⟨h, e1, e2⟩ | ⟨⟨h1, h2, h⟩, e1, e2⟩ | ⟨h, e1, e2⟩
  · rw [e1, e2]; exact jToDay_range _ _ _ _ h
  · rw [e1, e2]; exact jToDay_date _ _ _ _ h1 h2 h
  · rw [e1, e2]; exact jToDay_ok _ _ _ _ h
theorem rFromDay_all (n y m d e : Int) (w : World) (h : FdRel 2 n y m d e) :
    Calls Try.prog 39 #[.int .i64 n] w fun e' w' => e' = .returned (.tuple #[.agg #[.int .i64 y, .int .i64 m, .int .i64 d], .int .i64 e]) ∧ Kept w w' := by
  rcases h with ⟨h, rfl, rfl, rfl, rfl⟩ | ⟨h, h', rfl⟩
  · rw [fst_one, fst_top, if_neg (by decide), if_neg (by decide)] at h; exact rFromDay_no _ _ h
  · exact rFromDay_ok _ _ _ _ _ h h'
theorem jFromDay_all (n y m d e : Int) (w : World) (h : FdRel 1 n y m d e) :
    Calls Try.prog 38 #[.int .i64 n] w fun e' w' => e' = .returned (.tuple #[.agg #[.int .i64 y, .int .i64 m, .int .i64 d], .int .i64 e]) ∧ Kept w w' := by
  rcases h with ⟨h, rfl, rfl, rfl, rfl⟩ | ⟨h, h', rfl⟩
  · rw [fst_one, fst_top, if_pos rfl, if_pos rfl] at h; exact jFromDay_no _ _ h
  · exact jFromDay_ok _ _ _ _ _ h h'

theorem refToDay_all (c y m d : Int) (w : World) :
    Calls Try.prog 40 #[.int .i64 c, .agg #[.int .i64 y, .int .i64 m, .int .i64 d]] w fun e w' => e = .returned (.tuple #[.int .i64 (cN c y m d), .int .i64 (cE c y m d)]) ∧ Kept w w' := by
  rcases cal_cases c with rfl | rfl | ⟨h, h'⟩
  · rw [show cN 1 y m d = tdN 1 y m d from rfl, show cE 1 y m d = tdE 1 y m d from rfl]
    go_enter Try.func40, Try.ntmps40
    go_wp2_with fail
    (go_at_call 52; refine (jToDay_all _ _ _ _).mono ?_; rintro e w1 ⟨rfl, hk1⟩)
    have hB1_1 := hk1
    obtain ⟨hc1_1, hf1_1⟩ := kept_cells hB1_1
    have hz1_0_1 : w.heap.size < w1.heap.size := by have := hB1_1.size; simp at this; omega
    go_wp2
    go_ret2
    exact ⟨rfl, (by repeat (first | with_reducible exact Kept.refl _ | with_reducible assumption | with_reducible refine Kept.drew ?_ | with_reducible refine Kept.drewN ?_ _ | with_reducible refine Kept.alloc ?_ _ | (with_reducible refine Kept.setCell ?_ (by first | exact Nat.le_refl _ | omega | (simp; done) | (simp; omega)) _) | (with_reducible refine Kept.trans ?_ (by with_reducible assumption))))⟩
  · rw [show cN 2 y m d = tdN 2 y m d from rfl, show cE 2 y m d = tdE 2 y m d from rfl]
    go_enter Try.func40, Try.ntmps40
    go_wp2_with fail
    (go_at_call 53; refine (rToDay_all _ _ _ _).mono ?_; rintro e w1 ⟨rfl, hk1⟩)
    have hB1_1 := hk1
    obtain ⟨hc1_1, hf1_1⟩ := kept_cells hB1_1
    have hz1_0_1 : w.heap.size < w1.heap.size := by have := hB1_1.size; simp at this; omega
    go_wp2
    go_ret2
    exact ⟨rfl, (by repeat (first | with_reducible exact Kept.refl _ | with_reducible assumption | with_reducible refine Kept.drew ?_ | with_reducible refine Kept.drewN ?_ _ | with_reducible refine Kept.alloc ?_ _ | (with_reducible refine Kept.setCell ?_ (by first | exact Nat.le_refl _ | omega | (simp; done) | (simp; omega)) _) | (with_reducible refine Kept.trans ?_ (by with_reducible assumption))))⟩
  · rw [show cN c y m d = 0 from if_neg h, show cE c y m d = 3 from if_neg h]
    clear h
    rcases h' with h' | h'
    all_goals
      go_enter Try.func40, Try.ntmps40
      go_wp2
      go_ret2
      exact ⟨rfl, (by repeat (first | with_reducible exact Kept.refl _ | with_reducible assumption | with_reducible refine Kept.drew ?_ | with_reducible refine Kept.drewN ?_ _ | with_reducible refine Kept.alloc ?_ _ | (with_reducible refine Kept.setCell ?_ (by first | exact Nat.le_refl _ | omega | (simp; done) | (simp; omega)) _) | (with_reducible refine Kept.trans ?_ (by with_reducible assumption))))⟩
theorem refFromDay_all (c n y m d e : Int) (w : World) (hf : FdC c n y m d e) :
    Calls Try.prog 30 #[.int .i64 c, .int .i64 n] w fun e' w' => e' = .returned (.tuple #[.agg #[.int .i64 y, .int .i64 m, .int .i64 d], .int .i64 e]) ∧ Kept w w' := by
  rcases cal_cases c with rfl | rfl | ⟨h, h'⟩
  · have hr : FdRel 1 n y m d e := by
      rcases hf with hf | hf
      · exact hf.2
      · exact absurd (.inl rfl) hf.1
    have HR := Lib.hid hr
    clear hf hr
    go_enter Try.func30, Try.ntmps30
    go_wp2_with fail
    (go_at_call 38; refine (jFromDay_all _ _ _ _ _ _ HR.out).mono ?_; rintro e w1 ⟨rfl, hk1⟩)
    have hB1_1 := hk1
    obtain ⟨hc1_1, hf1_1⟩ := kept_cells hB1_1
    have hz1_0_1 : w.heap.size < w1.heap.size := by have := hB1_1.size; simp at this; omega
    go_wp2
    exact bodyPost_ret (v := .tuple #[.agg #[.int .i64 y, .int .i64 m, .int .i64 d], .int .i64 e]) (by simp [results, Try.results30, go_sem, *]) rfl ⟨rfl, (by repeat (first | with_reducible exact Kept.refl _ | with_reducible assumption | with_reducible refine Kept.drew ?_ | with_reducible refine Kept.drewN ?_ _ | with_reducible refine Kept.alloc ?_ _ | (with_reducible refine Kept.setCell ?_ (by first | exact Nat.le_refl _ | omega | (simp; done) | (simp; omega)) _) | (with_reducible refine Kept.trans ?_ (by with_reducible assumption))))⟩
  · have hr : FdRel 2 n y m d e := by
      rcases hf with hf | hf
      · exact hf.2
      · exact absurd (.inr rfl) hf.1
    have HR := Lib.hid hr
    clear hf hr
    go_enter Try.func30, Try.ntmps30
    go_wp2_with fail
    (go_at_call 39; refine (rFromDay_all _ _ _ _ _ _ HR.out).mono ?_; rintro e w1 ⟨rfl, hk1⟩)
    have hB1_1 := hk1
    obtain ⟨hc1_1, hf1_1⟩ := kept_cells hB1_1
    have hz1_0_1 : w.heap.size < w1.heap.size := by have := hB1_1.size; simp at this; omega
    go_wp2
    exact bodyPost_ret (v := .tuple #[.agg #[.int .i64 y, .int .i64 m, .int .i64 d], .int .i64 e]) (by simp [results, Try.results30, go_sem, *]) rfl ⟨rfl, (by repeat (first | with_reducible exact Kept.refl _ | with_reducible assumption | with_reducible refine Kept.drew ?_ | with_reducible refine Kept.drewN ?_ _ | with_reducible refine Kept.alloc ?_ _ | (with_reducible refine Kept.setCell ?_ (by first | exact Nat.le_refl _ | omega | (simp; done) | (simp; omega)) _) | (with_reducible refine Kept.trans ?_ (by with_reducible assumption))))⟩
  · rcases hf with hf | ⟨_, rfl, rfl, rfl, rfl⟩
    · exact absurd hf.1 h
    · clear h
      rcases h' with h' | h'
      all_goals
        go_enter Try.func30, Try.ntmps30
        go_wp2
        exact bodyPost_ret (v := .tuple #[.agg #[.int .i64 0, .int .i64 0, .int .i64 0], .int .i64 3]) (by simp [results, Try.results30, go_sem, *]) rfl ⟨rfl, (by repeat (first | with_reducible exact Kept.refl _ | with_reducible assumption | with_reducible refine Kept.drew ?_ | with_reducible refine Kept.drewN ?_ _ | with_reducible refine Kept.alloc ?_ _ | (with_reducible refine Kept.setCell ?_ (by first | exact Nat.le_refl _ | omega | (simp; done) | (simp; omega)) _) | (with_reducible refine Kept.trans ?_ (by with_reducible assumption))))⟩
end Go.Proofs.Ytekgaihdfnhkpaa

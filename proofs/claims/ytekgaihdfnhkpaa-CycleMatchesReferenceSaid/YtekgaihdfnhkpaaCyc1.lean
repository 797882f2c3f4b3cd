/- Contracts: package cycle: check, index, exists, each. -/
import Derived.Test.YtekgaihdfnhkpaaCyc0
import Derived.Test.YtekgaihdfnhkpaaGauRef
import Derived.Test.YtekgaihdfnhkpaaRefP
import Derived.Test.YtekgaihdfnhkpaaRefLab3
import Derived.Test.YtekgaihdfnhkpaaEas2
import Derived.Outline
set_option linter.unusedSimpArgs false
set_option linter.unusedVariables false
set_option linter.unusedSectionVars false
namespace Go.Proofs.Ytekgaihdfnhkpaa
open Go.ChangeShapes Go.WideShapes Go.ChangeAt Go.RowKit
set_option maxHeartbeats 1000000
set_option maxRecDepth 20000

def gaY (c y : Int) : Int := if flE c y = 0 then y else 0
def gaM (c y : Int) : Int := if flE c y = 0 then gMo c y else 0
def gaD (c y : Int) : Int := if flE c y = 0 then gDa c y else 0
theorem Gau_any (c y : Int) (w : World) : Calls Try.prog 22 #[.int .i64 c, .int .i64 y] w fun e w' => e = .returned (.tuple #[.agg #[.int .i64 (gaY c y), .int .i64 (gaM c y), .int .i64 (gaD c y)], .int .i64 (flE c y)]) ∧ Kept w w' := by
  unfold gaY gaM gaD
  rcases fl_cases c y with ⟨h, e0⟩ | ⟨h, e0⟩ | ⟨h, e0⟩
  · rw [if_pos e0, if_pos e0, if_pos e0, e0]; exact Gau_ok c y w h
  · rw [if_neg (by omega), if_neg (by omega), if_neg (by omega), e0]; exact Gau_off c y w h
  · rw [if_neg (by omega), if_neg (by omega), if_neg (by omega), e0]; exact Gau_arg c y w h
/-- The error of a range of years. -/
def rgE (c f l : Int) : Int := if flE c f ≠ 0 then flE c f else if flE c l ≠ 0 then 1 else if l < f ∨ 9999 < l - f then 1 else 0
theorem index_any (m d : Int) (w : World) (h : 0 ≤ m ∧ m ≤ 100) (h' : 0 ≤ d ∧ d ≤ 100) :
    Calls Try.prog 26 #[.int .i64 m, .int .i64 d] w fun e w' => e = .returned (.int .i64 ((m - 3) * 31 + d - 22)) ∧ w = w' := by
  obtain ⟨h1, h2⟩ := h
  obtain ⟨h3, h4⟩ := h'
  go_enter Try.func26, Try.ntmps26
  go_wp2
  go_ret
  exact ⟨rfl, rfl⟩
theorem exists_any (m d : Int) (w : World) :
    Calls Try.prog 25 #[.int .i64 m, .int .i64 d] w fun e w' => e = .returned (.bool (exB m d)) ∧ w = w' := by
  have hv : exB m d = decide (m = 3 ∧ 22 ≤ d ∧ d ≤ 31 ∨ m = 4 ∧ 1 ≤ d ∧ d ≤ 25) := rfl
  by_cases h3 : m = 3
  · subst h3
    by_cases a : 22 ≤ d
    · by_cases b : d ≤ 31
      · have e : exB 3 d = true := by rw [hv]; simp; omega
        rw [e]; clear e hv
        go_enter Try.func25, Try.ntmps25
        go_wp2
        go_ret
        exact ⟨rfl, rfl⟩
      · have e : exB 3 d = false := by rw [hv]; simp; omega
        rw [e]; clear e hv
        go_enter Try.func25, Try.ntmps25
        go_wp2
        go_ret
        exact ⟨rfl, rfl⟩
    · have e : exB 3 d = false := by rw [hv]; simp; omega
      rw [e]; clear e hv
      go_enter Try.func25, Try.ntmps25
      go_wp2
      go_ret
      exact ⟨rfl, rfl⟩
  · by_cases h4 : m = 4
    · subst h4
      by_cases a : 1 ≤ d
      · by_cases b : d ≤ 25
        · have e : exB 4 d = true := by rw [hv]; simp; omega
          rw [e]; clear e hv
          go_enter Try.func25, Try.ntmps25
          go_wp2
          go_ret
          exact ⟨rfl, rfl⟩
        · have e : exB 4 d = false := by rw [hv]; simp; omega
          rw [e]; clear e hv
          go_enter Try.func25, Try.ntmps25
          go_wp2
          go_ret
          exact ⟨rfl, rfl⟩
      · have e : exB 4 d = false := by rw [hv]; simp; omega
        rw [e]; clear e hv
        go_enter Try.func25, Try.ntmps25
        go_wp2
        go_ret
        exact ⟨rfl, rfl⟩
    · have e : exB m d = false := by rw [hv]; simp; omega
      rw [e]; clear e hv
      go_enter Try.func25, Try.ntmps25
      go_wp2
      go_ret
      exact ⟨rfl, rfl⟩
theorem check_any (c f l : Int) (w : World) (bf : -9223372036854775808 ≤ f ∧ f ≤ 9223372036854775807) (bl : -9223372036854775808 ≤ l ∧ l ≤ 9223372036854775807) :
    Calls Try.prog 36 #[.int .i64 c, .int .i64 f, .int .i64 l] w fun e w' => e = .returned (.int .i64 (rgE c f l)) ∧ Kept w w' := by
  have hv : rgE c f l = if flE c f ≠ 0 then flE c f else if flE c l ≠ 0 then 1 else if l < f ∨ 9999 < l - f then 1 else 0 := rfl
  have K1 := Lib.hid (fun w => Gau_any c f w)
  have K2 := Lib.hid (fun w => Gau_any c l w)
  generalize gaY c f = a1 at *
  generalize gaM c f = a2 at *
  generalize gaD c f = a3 at *
  generalize gaY c l = b1 at *
  generalize gaM c l = b2 at *
  generalize gaD c l = b3 at *
  rcases fl_cases c f with ⟨h, e0⟩ | ⟨h, e0⟩ | ⟨h, e0⟩
  · rw [e0] at K1
    have x1 := fit_cal c f h
    rcases fl_cases c l with ⟨g, e1⟩ | ⟨g, e1⟩ | ⟨g, e1⟩
    · rw [e1] at K2
      have x2 := fit_cal c l g
      rw [if_neg (by omega), if_neg (by omega)] at hv
      clear e0 e1 h g
      by_cases o : l < f
      · rw [hv, if_pos (.inl o)]
        clear hv
        go_enter Try.func36, Try.ntmps36
        go_wp2_with fail
        (go_at_call 22; refine (K1.out _).mono ?_; rintro e w1 ⟨rfl, hk1⟩)
        go_wp2_with fail
        (go_at_call 22; refine (K2.out _).mono ?_; rintro e w2 ⟨rfl, hk2⟩)
        have hB2_2 := hk2
        obtain ⟨hc2_2, hf2_2⟩ := kept_cells hB2_2
        have hz2_0_2 : w1.heap.size < w2.heap.size := by have := hB2_2.size; simp at this; omega
        go_wp2
        go_ret
        exact ⟨rfl, (by repeat (first | with_reducible exact Kept.refl _ | with_reducible assumption | with_reducible refine Kept.drew ?_ | with_reducible refine Kept.drewN ?_ _ | with_reducible refine Kept.alloc ?_ _ | (with_reducible refine Kept.setCell ?_ (by first | exact Nat.le_refl _ | omega | (simp; done) | (simp; omega)) _) | (with_reducible refine Kept.trans ?_ (by with_reducible assumption))))⟩
      · by_cases p : 9999 < l - f
        · rw [hv, if_pos (.inr p)]
          clear hv
          go_enter Try.func36, Try.ntmps36
          go_wp2_with fail
          (go_at_call 22; refine (K1.out _).mono ?_; rintro e w1 ⟨rfl, hk1⟩)
          go_wp2_with fail
          (go_at_call 22; refine (K2.out _).mono ?_; rintro e w2 ⟨rfl, hk2⟩)
          have hB2_2 := hk2
          obtain ⟨hc2_2, hf2_2⟩ := kept_cells hB2_2
          have hz2_0_2 : w1.heap.size < w2.heap.size := by have := hB2_2.size; simp at this; omega
          go_wp2
          go_ret
          exact ⟨rfl, (by repeat (first | with_reducible exact Kept.refl _ | with_reducible assumption | with_reducible refine Kept.drew ?_ | with_reducible refine Kept.drewN ?_ _ | with_reducible refine Kept.alloc ?_ _ | (with_reducible refine Kept.setCell ?_ (by first | exact Nat.le_refl _ | omega | (simp; done) | (simp; omega)) _) | (with_reducible refine Kept.trans ?_ (by with_reducible assumption))))⟩
        · rw [hv, if_neg (by omega)]
          clear hv
          go_enter Try.func36, Try.ntmps36
          go_wp2_with fail
          (go_at_call 22; refine (K1.out _).mono ?_; rintro e w1 ⟨rfl, hk1⟩)
          go_wp2_with fail
          (go_at_call 22; refine (K2.out _).mono ?_; rintro e w2 ⟨rfl, hk2⟩)
          have hB2_2 := hk2
          obtain ⟨hc2_2, hf2_2⟩ := kept_cells hB2_2
          have hz2_0_2 : w1.heap.size < w2.heap.size := by have := hB2_2.size; simp at this; omega
          go_wp2
          go_ret
          exact ⟨rfl, (by repeat (first | with_reducible exact Kept.refl _ | with_reducible assumption | with_reducible refine Kept.drew ?_ | with_reducible refine Kept.drewN ?_ _ | with_reducible refine Kept.alloc ?_ _ | (with_reducible refine Kept.setCell ?_ (by first | exact Nat.le_refl _ | omega | (simp; done) | (simp; omega)) _) | (with_reducible refine Kept.trans ?_ (by with_reducible assumption))))⟩
    · rw [e1] at K2
      rw [hv, if_neg (by omega), if_pos (by omega)]
      clear hv e0 e1 h g
      go_enter Try.func36, Try.ntmps36
      go_wp2_with fail
      (go_at_call 22; refine (K1.out _).mono ?_; rintro e w1 ⟨rfl, hk1⟩)
      go_wp2_with fail
      (go_at_call 22; refine (K2.out _).mono ?_; rintro e w2 ⟨rfl, hk2⟩)
      have hB2_2 := hk2
      obtain ⟨hc2_2, hf2_2⟩ := kept_cells hB2_2
      have hz2_0_2 : w1.heap.size < w2.heap.size := by have := hB2_2.size; simp at this; omega
      go_wp2
      go_ret
      exact ⟨rfl, (by repeat (first | with_reducible exact Kept.refl _ | with_reducible assumption | with_reducible refine Kept.drew ?_ | with_reducible refine Kept.drewN ?_ _ | with_reducible refine Kept.alloc ?_ _ | (with_reducible refine Kept.setCell ?_ (by first | exact Nat.le_refl _ | omega | (simp; done) | (simp; omega)) _) | (with_reducible refine Kept.trans ?_ (by with_reducible assumption))))⟩
    · unfold Fit at h; omega
  all_goals
    rw [e0] at K1
    rw [hv, if_pos (by omega), e0]
    clear hv e0 h
    go_enter Try.func36, Try.ntmps36
    go_wp2_with fail
    (go_at_call 22; refine (K1.out _).mono ?_; rintro e w1 ⟨rfl, hk1⟩)
    go_wp2
    go_ret
    exact ⟨rfl, (by repeat (first | with_reducible exact Kept.refl _ | with_reducible assumption | with_reducible refine Kept.drew ?_ | with_reducible refine Kept.drewN ?_ _ | with_reducible refine Kept.alloc ?_ _ | (with_reducible refine Kept.setCell ?_ (by first | exact Nat.le_refl _ | omega | (simp; done) | (simp; omega)) _) | (with_reducible refine Kept.trans ?_ (by with_reducible assumption))))⟩
end Go.Proofs.Ytekgaihdfnhkpaa

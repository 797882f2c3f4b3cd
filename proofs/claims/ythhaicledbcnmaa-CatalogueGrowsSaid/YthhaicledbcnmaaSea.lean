/- Contracts: seasons and feasts of a catalogue, and their references. -/
import Derived.Test.YthhaicledbcnmaaAncR
import Derived.Test.YthhaicledbcnmaaIdt
set_option linter.unusedSimpArgs false
set_option linter.unusedVariables false
set_option linter.unusedSectionVars false
namespace Go.Proofs.Ythhaicledbcnmaa
open Go.ChangeShapes Go.WideShapes Go.ChangeAt Go.RowKit
set_option maxHeartbeats 1000000
set_option maxRecDepth 20000

def rkB (n : Int) : Bool := decide (1 ≤ n ∧ n ≤ 9)
def poB (n : Int) : Bool := decide (1 ≤ n ∧ n ≤ 3)
theorem rank_any (n : Int) (w : World) : Calls Try.prog 21 #[.int .i64 n] w fun e w' => e = .returned (.bool (rkB n)) ∧ w = w' := by
  have hv : rkB n = decide (1 ≤ n ∧ n ≤ 9) := rfl
  by_cases h1 : 1 ≤ n
  · by_cases h2 : n ≤ 9
    · have e : rkB n = true := by rw [hv]; simp [h1, h2]
      rw [e]; clear e hv
      go_enter Try.func21, Try.ntmps21
      go_wp2
      go_ret
      exact ⟨rfl, rfl⟩
    · have e : rkB n = false := by rw [hv]; simp [h2]
      rw [e]; clear e hv
      have g : decide (n ≤ 9) = false := decide_eq_false h2
      go_enter Try.func21, Try.ntmps21
      go_wp2
      go_ret
      exact ⟨rfl, rfl⟩
  · have e : rkB n = false := by rw [hv]; simp [h1]
    rw [e]; clear e hv
    go_enter Try.func21, Try.ntmps21
    go_wp2
    go_ret
    exact ⟨rfl, rfl⟩
/-- A well-formed season; a well-formed feast. -/
def seaB (s : ByteArray) (a b k m d o wd c : Int) : Bool := idB s && (rkB a && (rkB b && ancB k m d o wd c))
def feaB (s : ByteArray) (a b k m d o wd c : Int) : Bool := idB s && (rkB a && (poB b && ancB k m d o wd c))
theorem rk_cases (a : Int) : (rkB a = true ∧ 1 ≤ a ∧ a ≤ 9) ∨ (rkB a = false ∧ (a < 1 ∨ 1 ≤ a ∧ 9 < a)) := by
  unfold rkB
  by_cases h : 1 ≤ a ∧ a ≤ 9
  · exact .inl ⟨decide_eq_true h, h⟩
  · exact .inr ⟨decide_eq_false h, by omega⟩
theorem po_cases (a : Int) : (poB a = true ∧ 1 ≤ a ∧ a ≤ 3) ∨ (poB a = false ∧ (a < 1 ∨ 1 ≤ a ∧ 3 < a)) := by
  unfold poB
  by_cases h : 1 ≤ a ∧ a ≤ 3
  · exact .inl ⟨decide_eq_true h, h⟩
  · exact .inr ⟨decide_eq_false h, by omega⟩
set_option maxHeartbeats 2000000 in
theorem Season_any (s : ByteArray) (a b k m d o wd c : Int) (w : World) (bc : -9223372036854775808 ≤ c ∧ c ≤ 9223372036854775807) :
    Calls Try.prog 10 #[.agg #[.string s, .int .i64 a, .int .i64 b, .int .i64 k, .int .i64 m, .int .i64 d, .int .i64 o, .int .i64 wd, .int .i64 c]] w fun e w' => e = .returned (.bool (seaB s a b k m d o wd c)) ∧ Kept w w' := by
  unfold seaB
  have KI := Lib.hid (fun w => Ident_any s w)
  have K1 := Lib.hid (fun w => rank_any a w)
  have K2 := Lib.hid (fun w => rank_any b w)
  have KA := Lib.hid (fun w => ACheck_any k m d o wd c w bc)
  generalize idB s = i at *
  generalize rkB a = r1 at *
  generalize rkB b = r2 at *
  generalize ancB k m d o wd c = r3 at *
  cases i with
  | false =>
    go_enter Try.func10, Try.ntmps10
    go_wp2_with fail
    (go_at_call 8; refine (KI.out _).mono ?_; rintro e w1 ⟨rfl, hk1⟩)
    have hB1_1 := hk1
    obtain ⟨hc1_1, hf1_1⟩ := kept_cells hB1_1
    have hz1_0_1 : w.heap.size < w1.heap.size := by have := hB1_1.size; simp at this; omega
    go_wp2
    go_ret
    exact ⟨rfl, (by repeat (first | with_reducible exact Kept.refl _ | with_reducible assumption | with_reducible refine Kept.drew ?_ | with_reducible refine Kept.drewN ?_ _ | with_reducible refine Kept.alloc ?_ _ | (with_reducible refine Kept.setCell ?_ (by first | exact Nat.le_refl _ | omega | (simp; done) | (simp; omega)) _) | (with_reducible refine Kept.trans ?_ (by with_reducible assumption))))⟩
  | true =>
    cases r1 with
    | false =>
      go_enter Try.func10, Try.ntmps10
      go_wp2_with fail
      (go_at_call 8; refine (KI.out _).mono ?_; rintro e w1 ⟨rfl, hk1⟩)
      have hB1_1 := hk1
      obtain ⟨hc1_1, hf1_1⟩ := kept_cells hB1_1
      have hz1_0_1 : w.heap.size < w1.heap.size := by have := hB1_1.size; simp at this; omega
      go_wp2_with fail
      (go_at_call 21; refine (K1.out _).mono ?_; rintro e w1 ⟨rfl, rfl⟩)
      go_wp2
      go_ret
      exact ⟨rfl, (by repeat (first | with_reducible exact Kept.refl _ | with_reducible assumption | with_reducible refine Kept.drew ?_ | with_reducible refine Kept.drewN ?_ _ | with_reducible refine Kept.alloc ?_ _ | (with_reducible refine Kept.setCell ?_ (by first | exact Nat.le_refl _ | omega | (simp; done) | (simp; omega)) _) | (with_reducible refine Kept.trans ?_ (by with_reducible assumption))))⟩
    | true =>
      cases r2 with
      | false =>
        go_enter Try.func10, Try.ntmps10
        go_wp2_with fail
        (go_at_call 8; refine (KI.out _).mono ?_; rintro e w1 ⟨rfl, hk1⟩)
        have hB1_1 := hk1
        obtain ⟨hc1_1, hf1_1⟩ := kept_cells hB1_1
        have hz1_0_1 : w.heap.size < w1.heap.size := by have := hB1_1.size; simp at this; omega
        go_wp2_with fail
        (go_at_call 21; refine (K1.out _).mono ?_; rintro e w1 ⟨rfl, rfl⟩)
        go_wp2_with fail
        (go_at_call 21; refine (K2.out _).mono ?_; rintro e w1 ⟨rfl, rfl⟩)
        go_wp2
        go_ret
        exact ⟨rfl, (by repeat (first | with_reducible exact Kept.refl _ | with_reducible assumption | with_reducible refine Kept.drew ?_ | with_reducible refine Kept.drewN ?_ _ | with_reducible refine Kept.alloc ?_ _ | (with_reducible refine Kept.setCell ?_ (by first | exact Nat.le_refl _ | omega | (simp; done) | (simp; omega)) _) | (with_reducible refine Kept.trans ?_ (by with_reducible assumption))))⟩
      | true =>
        go_enter Try.func10, Try.ntmps10
        go_wp2_with fail
        (go_at_call 8; refine (KI.out _).mono ?_; rintro e w1 ⟨rfl, hk1⟩)
        have hB1_1 := hk1
        obtain ⟨hc1_1, hf1_1⟩ := kept_cells hB1_1
        have hz1_0_1 : w.heap.size < w1.heap.size := by have := hB1_1.size; simp at this; omega
        go_wp2_with fail
        (go_at_call 21; refine (K1.out _).mono ?_; rintro e w1 ⟨rfl, rfl⟩)
        go_wp2_with fail
        (go_at_call 21; refine (K2.out _).mono ?_; rintro e w1 ⟨rfl, rfl⟩)
        go_wp2_with fail
        (go_at_call 22; refine (KA.out _).mono ?_; rintro e w2 ⟨rfl, hk2⟩)
        have hB1_2 := Kept.trans hB1_1 hk2
        obtain ⟨hc1_2, hf1_2⟩ := kept_cells hB1_2
        have hz1_0_2 : w.heap.size < w2.heap.size := by have := hB1_2.size; simp at this; omega
        go_wp2
        go_ret
        exact ⟨by first | rfl | (simp; done), (by repeat (first | with_reducible exact Kept.refl _ | with_reducible assumption | with_reducible refine Kept.drew ?_ | with_reducible refine Kept.drewN ?_ _ | with_reducible refine Kept.alloc ?_ _ | (with_reducible refine Kept.setCell ?_ (by first | exact Nat.le_refl _ | omega | (simp; done) | (simp; omega)) _) | (with_reducible refine Kept.trans ?_ (by with_reducible assumption))))⟩
end Go.Proofs.Ythhaicledbcnmaa

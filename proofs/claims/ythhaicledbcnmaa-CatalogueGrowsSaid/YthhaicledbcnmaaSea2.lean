/- Contracts: feasts of a catalogue, and the references of seasons and feasts. -/
import Derived.Test.YthhaicledbcnmaaSea
set_option linter.unusedSimpArgs false
set_option linter.unusedVariables false
set_option linter.unusedSectionVars false
namespace Go.Proofs.Ythhaicledbcnmaa
open Go.ChangeShapes Go.WideShapes Go.ChangeAt Go.RowKit
set_option maxHeartbeats 1000000
set_option maxRecDepth 20000

set_option maxHeartbeats 4000000 in
theorem Feast_any (s : ByteArray) (a b k m d o wd c : Int) (w : World) (bc : -9223372036854775808 ≤ c ∧ c ≤ 9223372036854775807) :
    Calls Try.prog 12 #[.agg #[.string s, .int .i64 a, .int .i64 b, .int .i64 k, .int .i64 m, .int .i64 d, .int .i64 o, .int .i64 wd, .int .i64 c]] w fun e w' => e = .returned (.bool (feaB s a b k m d o wd c)) ∧ Kept w w' := by
  unfold feaB
  have KI := Lib.hid (fun w => Ident_any s w)
  have KA := Lib.hid (fun w => ACheck_any k m d o wd c w bc)
  have hca := rk_cases a
  have hcb := po_cases b
  have K1 := Lib.hid (fun w => rank_any a w)
  generalize idB s = i at *
  generalize rkB a = r1 at *
  generalize poB b = r2 at *
  generalize ancB k m d o wd c = r3 at *
  cases i with
  | false =>
    clear hca hcb
    go_enter Try.func12, Try.ntmps12
    go_wp2_with fail
    (go_at_call 8; refine (KI.out _).mono ?_; rintro e w1 ⟨rfl, hk1⟩)
    have hB1_1 := hk1
    obtain ⟨hc1_1, hf1_1⟩ := kept_cells hB1_1
    have hz1_0_1 : w.heap.size < w1.heap.size := by have := hB1_1.size; simp at this; omega
    go_wp2
    go_ret
    exact ⟨by first | rfl | (simp; done), (by repeat (first | with_reducible exact Kept.refl _ | with_reducible assumption | with_reducible refine Kept.drew ?_ | with_reducible refine Kept.drewN ?_ _ | with_reducible refine Kept.alloc ?_ _ | (with_reducible refine Kept.setCell ?_ (by first | exact Nat.le_refl _ | omega | (simp; done) | (simp; omega)) _) | (with_reducible refine Kept.trans ?_ (by with_reducible assumption))))⟩
  | true =>
    rcases hca with ⟨rfl, ha1, ha2⟩ | ⟨rfl, hca⟩
    · rcases hcb with ⟨rfl, hb1, hb2⟩ | ⟨rfl, hcb⟩
      · have hz : True := trivial
        go_enter Try.func12, Try.ntmps12
        go_wp2_with fail
        (go_at_call 8; refine (KI.out _).mono ?_; rintro e w1 ⟨rfl, hk1⟩)
        have hB1_1 := hk1
        obtain ⟨hc1_1, hf1_1⟩ := kept_cells hB1_1
        have hz1_0_1 : w.heap.size < w1.heap.size := by have := hB1_1.size; simp at this; omega
        go_wp2_with fail
        (go_at_call 21; refine (K1.out _).mono ?_; rintro e w1 ⟨rfl, rfl⟩)
        go_wp2_with fail
        (go_at_call 22; refine (KA.out _).mono ?_; rintro e w2 ⟨rfl, hk2⟩)
        have hB1_2 := Kept.trans hB1_1 hk2
        obtain ⟨hc1_2, hf1_2⟩ := kept_cells hB1_2
        have hz1_0_2 : w.heap.size < w2.heap.size := by have := hB1_2.size; simp at this; omega
        go_wp2
        go_ret
        exact ⟨by first | rfl | (simp; done), (by repeat (first | with_reducible exact Kept.refl _ | with_reducible assumption | with_reducible refine Kept.drew ?_ | with_reducible refine Kept.drewN ?_ _ | with_reducible refine Kept.alloc ?_ _ | (with_reducible refine Kept.setCell ?_ (by first | exact Nat.le_refl _ | omega | (simp; done) | (simp; omega)) _) | (with_reducible refine Kept.trans ?_ (by with_reducible assumption))))⟩
      · rcases hcb with hb | ⟨hb, hb2⟩
        · have hz : True := trivial
          go_enter Try.func12, Try.ntmps12
          go_wp2_with fail
          (go_at_call 8; refine (KI.out _).mono ?_; rintro e w1 ⟨rfl, hk1⟩)
          have hB1_1 := hk1
          obtain ⟨hc1_1, hf1_1⟩ := kept_cells hB1_1
          have hz1_0_1 : w.heap.size < w1.heap.size := by have := hB1_1.size; simp at this; omega
          go_wp2_with fail
          (go_at_call 21; refine (K1.out _).mono ?_; rintro e w1 ⟨rfl, rfl⟩)
          go_wp2
          go_ret
          exact ⟨by first | rfl | (simp; done), (by repeat (first | with_reducible exact Kept.refl _ | with_reducible assumption | with_reducible refine Kept.drew ?_ | with_reducible refine Kept.drewN ?_ _ | with_reducible refine Kept.alloc ?_ _ | (with_reducible refine Kept.setCell ?_ (by first | exact Nat.le_refl _ | omega | (simp; done) | (simp; omega)) _) | (with_reducible refine Kept.trans ?_ (by with_reducible assumption))))⟩
        · have hz : True := trivial
          go_enter Try.func12, Try.ntmps12
          go_wp2_with fail
          (go_at_call 8; refine (KI.out _).mono ?_; rintro e w1 ⟨rfl, hk1⟩)
          have hB1_1 := hk1
          obtain ⟨hc1_1, hf1_1⟩ := kept_cells hB1_1
          have hz1_0_1 : w.heap.size < w1.heap.size := by have := hB1_1.size; simp at this; omega
          go_wp2_with fail
          (go_at_call 21; refine (K1.out _).mono ?_; rintro e w1 ⟨rfl, rfl⟩)
          go_wp2
          go_ret
          exact ⟨by first | rfl | (simp; done), (by repeat (first | with_reducible exact Kept.refl _ | with_reducible assumption | with_reducible refine Kept.drew ?_ | with_reducible refine Kept.drewN ?_ _ | with_reducible refine Kept.alloc ?_ _ | (with_reducible refine Kept.setCell ?_ (by first | exact Nat.le_refl _ | omega | (simp; done) | (simp; omega)) _) | (with_reducible refine Kept.trans ?_ (by with_reducible assumption))))⟩
    · clear hca hcb
      go_enter Try.func12, Try.ntmps12
      go_wp2_with fail
      (go_at_call 8; refine (KI.out _).mono ?_; rintro e w1 ⟨rfl, hk1⟩)
      have hB1_1 := hk1
      obtain ⟨hc1_1, hf1_1⟩ := kept_cells hB1_1
      have hz1_0_1 : w.heap.size < w1.heap.size := by have := hB1_1.size; simp at this; omega
      go_wp2_with fail
      (go_at_call 21; refine (K1.out _).mono ?_; rintro e w1 ⟨rfl, rfl⟩)
      go_wp2
      go_ret
      exact ⟨by first | rfl | (simp; done), (by repeat (first | with_reducible exact Kept.refl _ | with_reducible assumption | with_reducible refine Kept.drew ?_ | with_reducible refine Kept.drewN ?_ _ | with_reducible refine Kept.alloc ?_ _ | (with_reducible refine Kept.setCell ?_ (by first | exact Nat.le_refl _ | omega | (simp; done) | (simp; omega)) _) | (with_reducible refine Kept.trans ?_ (by with_reducible assumption))))⟩
set_option maxHeartbeats 4000000 in
theorem rSeason_any (s : ByteArray) (a b k m d o wd c : Int) (w : World) (bc : -9223372036854775808 ≤ c ∧ c ≤ 9223372036854775807) :
    Calls Try.prog 11 #[.agg #[.string s, .int .i64 a, .int .i64 b, .int .i64 k, .int .i64 m, .int .i64 d, .int .i64 o, .int .i64 wd, .int .i64 c]] w fun e w' => e = .returned (.bool (seaB s a b k m d o wd c)) ∧ Kept w w' := by
  unfold seaB
  have KI := Lib.hid (fun w => rIdent_any s w)
  have KA := Lib.hid (fun w => rACheck_any k m d o wd c w bc)
  have hca := rk_cases a
  have hcb := rk_cases b
  generalize idB s = i at *
  generalize rkB a = r1 at *
  generalize rkB b = r2 at *
  generalize ancB k m d o wd c = r3 at *
  cases i with
  | false =>
    clear hca hcb
    go_enter Try.func11, Try.ntmps11
    go_wp2_with fail
    (go_at_call 9; refine (KI.out _).mono ?_; rintro e w1 ⟨rfl, hk1⟩)
    have hB1_1 := hk1
    obtain ⟨hc1_1, hf1_1⟩ := kept_cells hB1_1
    have hz1_0_1 : w.heap.size < w1.heap.size := by have := hB1_1.size; simp at this; omega
    go_wp2
    go_ret
    exact ⟨by first | rfl | (simp; done), (by repeat (first | with_reducible exact Kept.refl _ | with_reducible assumption | with_reducible refine Kept.drew ?_ | with_reducible refine Kept.drewN ?_ _ | with_reducible refine Kept.alloc ?_ _ | (with_reducible refine Kept.setCell ?_ (by first | exact Nat.le_refl _ | omega | (simp; done) | (simp; omega)) _) | (with_reducible refine Kept.trans ?_ (by with_reducible assumption))))⟩
  | true =>
    rcases hca with ⟨rfl, ha1, ha2⟩ | ⟨rfl, hca⟩
    · rcases hcb with ⟨rfl, hb1, hb2⟩ | ⟨rfl, hcb⟩
      · have hz : True := trivial
        go_enter Try.func11, Try.ntmps11
        go_wp2_with fail
        (go_at_call 9; refine (KI.out _).mono ?_; rintro e w1 ⟨rfl, hk1⟩)
        have hB1_1 := hk1
        obtain ⟨hc1_1, hf1_1⟩ := kept_cells hB1_1
        have hz1_0_1 : w.heap.size < w1.heap.size := by have := hB1_1.size; simp at this; omega
        go_wp2_with fail
        (go_at_call 23; refine (KA.out _).mono ?_; rintro e w2 ⟨rfl, hk2⟩)
        have hB1_2 := Kept.trans hB1_1 hk2
        obtain ⟨hc1_2, hf1_2⟩ := kept_cells hB1_2
        have hz1_0_2 : w.heap.size < w2.heap.size := by have := hB1_2.size; simp at this; omega
        go_wp2
        go_ret
        exact ⟨by first | rfl | (simp; done), (by repeat (first | with_reducible exact Kept.refl _ | with_reducible assumption | with_reducible refine Kept.drew ?_ | with_reducible refine Kept.drewN ?_ _ | with_reducible refine Kept.alloc ?_ _ | (with_reducible refine Kept.setCell ?_ (by first | exact Nat.le_refl _ | omega | (simp; done) | (simp; omega)) _) | (with_reducible refine Kept.trans ?_ (by with_reducible assumption))))⟩
      · rcases hcb with hb | ⟨hb, hb2⟩
        · have hz : True := trivial
          go_enter Try.func11, Try.ntmps11
          go_wp2_with fail
          (go_at_call 9; refine (KI.out _).mono ?_; rintro e w1 ⟨rfl, hk1⟩)
          have hB1_1 := hk1
          obtain ⟨hc1_1, hf1_1⟩ := kept_cells hB1_1
          have hz1_0_1 : w.heap.size < w1.heap.size := by have := hB1_1.size; simp at this; omega
          go_wp2
          go_ret
          exact ⟨by first | rfl | (simp; done), (by repeat (first | with_reducible exact Kept.refl _ | with_reducible assumption | with_reducible refine Kept.drew ?_ | with_reducible refine Kept.drewN ?_ _ | with_reducible refine Kept.alloc ?_ _ | (with_reducible refine Kept.setCell ?_ (by first | exact Nat.le_refl _ | omega | (simp; done) | (simp; omega)) _) | (with_reducible refine Kept.trans ?_ (by with_reducible assumption))))⟩
        · have hz : True := trivial
          go_enter Try.func11, Try.ntmps11
          go_wp2_with fail
          (go_at_call 9; refine (KI.out _).mono ?_; rintro e w1 ⟨rfl, hk1⟩)
          have hB1_1 := hk1
          obtain ⟨hc1_1, hf1_1⟩ := kept_cells hB1_1
          have hz1_0_1 : w.heap.size < w1.heap.size := by have := hB1_1.size; simp at this; omega
          go_wp2
          go_ret
          exact ⟨by first | rfl | (simp; done), (by repeat (first | with_reducible exact Kept.refl _ | with_reducible assumption | with_reducible refine Kept.drew ?_ | with_reducible refine Kept.drewN ?_ _ | with_reducible refine Kept.alloc ?_ _ | (with_reducible refine Kept.setCell ?_ (by first | exact Nat.le_refl _ | omega | (simp; done) | (simp; omega)) _) | (with_reducible refine Kept.trans ?_ (by with_reducible assumption))))⟩
    · clear hcb
      rcases hca with ha | ⟨ha, ha2⟩
      · have hz : True := trivial
        go_enter Try.func11, Try.ntmps11
        go_wp2_with fail
        (go_at_call 9; refine (KI.out _).mono ?_; rintro e w1 ⟨rfl, hk1⟩)
        have hB1_1 := hk1
        obtain ⟨hc1_1, hf1_1⟩ := kept_cells hB1_1
        have hz1_0_1 : w.heap.size < w1.heap.size := by have := hB1_1.size; simp at this; omega
        go_wp2
        go_ret
        exact ⟨by first | rfl | (simp; done), (by repeat (first | with_reducible exact Kept.refl _ | with_reducible assumption | with_reducible refine Kept.drew ?_ | with_reducible refine Kept.drewN ?_ _ | with_reducible refine Kept.alloc ?_ _ | (with_reducible refine Kept.setCell ?_ (by first | exact Nat.le_refl _ | omega | (simp; done) | (simp; omega)) _) | (with_reducible refine Kept.trans ?_ (by with_reducible assumption))))⟩
      · have hz : True := trivial
        go_enter Try.func11, Try.ntmps11
        go_wp2_with fail
        (go_at_call 9; refine (KI.out _).mono ?_; rintro e w1 ⟨rfl, hk1⟩)
        have hB1_1 := hk1
        obtain ⟨hc1_1, hf1_1⟩ := kept_cells hB1_1
        have hz1_0_1 : w.heap.size < w1.heap.size := by have := hB1_1.size; simp at this; omega
        go_wp2
        go_ret
        exact ⟨by first | rfl | (simp; done), (by repeat (first | with_reducible exact Kept.refl _ | with_reducible assumption | with_reducible refine Kept.drew ?_ | with_reducible refine Kept.drewN ?_ _ | with_reducible refine Kept.alloc ?_ _ | (with_reducible refine Kept.setCell ?_ (by first | exact Nat.le_refl _ | omega | (simp; done) | (simp; omega)) _) | (with_reducible refine Kept.trans ?_ (by with_reducible assumption))))⟩
set_option maxHeartbeats 4000000 in
theorem rFeast_any (s : ByteArray) (a b k m d o wd c : Int) (w : World) (bc : -9223372036854775808 ≤ c ∧ c ≤ 9223372036854775807) :
    Calls Try.prog 13 #[.agg #[.string s, .int .i64 a, .int .i64 b, .int .i64 k, .int .i64 m, .int .i64 d, .int .i64 o, .int .i64 wd, .int .i64 c]] w fun e w' => e = .returned (.bool (feaB s a b k m d o wd c)) ∧ Kept w w' := by
  unfold feaB
  have KI := Lib.hid (fun w => rIdent_any s w)
  have KA := Lib.hid (fun w => rACheck_any k m d o wd c w bc)
  have hca := rk_cases a
  have hcb := po_cases b
  generalize idB s = i at *
  generalize rkB a = r1 at *
  generalize poB b = r2 at *
  generalize ancB k m d o wd c = r3 at *
  cases i with
  | false =>
    clear hca hcb
    go_enter Try.func13, Try.ntmps13
    go_wp2_with fail
    (go_at_call 9; refine (KI.out _).mono ?_; rintro e w1 ⟨rfl, hk1⟩)
    have hB1_1 := hk1
    obtain ⟨hc1_1, hf1_1⟩ := kept_cells hB1_1
    have hz1_0_1 : w.heap.size < w1.heap.size := by have := hB1_1.size; simp at this; omega
    go_wp2
    go_ret
    exact ⟨by first | rfl | (simp; done), (by repeat (first | with_reducible exact Kept.refl _ | with_reducible assumption | with_reducible refine Kept.drew ?_ | with_reducible refine Kept.drewN ?_ _ | with_reducible refine Kept.alloc ?_ _ | (with_reducible refine Kept.setCell ?_ (by first | exact Nat.le_refl _ | omega | (simp; done) | (simp; omega)) _) | (with_reducible refine Kept.trans ?_ (by with_reducible assumption))))⟩
  | true =>
    rcases hca with ⟨rfl, ha1, ha2⟩ | ⟨rfl, hca⟩
    · rcases hcb with ⟨rfl, hb1, hb2⟩ | ⟨rfl, hcb⟩
      · have hz : True := trivial
        go_enter Try.func13, Try.ntmps13
        go_wp2_with fail
        (go_at_call 9; refine (KI.out _).mono ?_; rintro e w1 ⟨rfl, hk1⟩)
        have hB1_1 := hk1
        obtain ⟨hc1_1, hf1_1⟩ := kept_cells hB1_1
        have hz1_0_1 : w.heap.size < w1.heap.size := by have := hB1_1.size; simp at this; omega
        go_wp2_with fail
        (go_at_call 23; refine (KA.out _).mono ?_; rintro e w2 ⟨rfl, hk2⟩)
        have hB1_2 := Kept.trans hB1_1 hk2
        obtain ⟨hc1_2, hf1_2⟩ := kept_cells hB1_2
        have hz1_0_2 : w.heap.size < w2.heap.size := by have := hB1_2.size; simp at this; omega
        go_wp2
        go_ret
        exact ⟨by first | rfl | (simp; done), (by repeat (first | with_reducible exact Kept.refl _ | with_reducible assumption | with_reducible refine Kept.drew ?_ | with_reducible refine Kept.drewN ?_ _ | with_reducible refine Kept.alloc ?_ _ | (with_reducible refine Kept.setCell ?_ (by first | exact Nat.le_refl _ | omega | (simp; done) | (simp; omega)) _) | (with_reducible refine Kept.trans ?_ (by with_reducible assumption))))⟩
      · rcases hcb with hb | ⟨hb, hb2⟩
        · have hz : True := trivial
          go_enter Try.func13, Try.ntmps13
          go_wp2_with fail
          (go_at_call 9; refine (KI.out _).mono ?_; rintro e w1 ⟨rfl, hk1⟩)
          have hB1_1 := hk1
          obtain ⟨hc1_1, hf1_1⟩ := kept_cells hB1_1
          have hz1_0_1 : w.heap.size < w1.heap.size := by have := hB1_1.size; simp at this; omega
          go_wp2
          go_ret
          exact ⟨by first | rfl | (simp; done), (by repeat (first | with_reducible exact Kept.refl _ | with_reducible assumption | with_reducible refine Kept.drew ?_ | with_reducible refine Kept.drewN ?_ _ | with_reducible refine Kept.alloc ?_ _ | (with_reducible refine Kept.setCell ?_ (by first | exact Nat.le_refl _ | omega | (simp; done) | (simp; omega)) _) | (with_reducible refine Kept.trans ?_ (by with_reducible assumption))))⟩
        · have hz : True := trivial
          go_enter Try.func13, Try.ntmps13
          go_wp2_with fail
          (go_at_call 9; refine (KI.out _).mono ?_; rintro e w1 ⟨rfl, hk1⟩)
          have hB1_1 := hk1
          obtain ⟨hc1_1, hf1_1⟩ := kept_cells hB1_1
          have hz1_0_1 : w.heap.size < w1.heap.size := by have := hB1_1.size; simp at this; omega
          go_wp2
          go_ret
          exact ⟨by first | rfl | (simp; done), (by repeat (first | with_reducible exact Kept.refl _ | with_reducible assumption | with_reducible refine Kept.drew ?_ | with_reducible refine Kept.drewN ?_ _ | with_reducible refine Kept.alloc ?_ _ | (with_reducible refine Kept.setCell ?_ (by first | exact Nat.le_refl _ | omega | (simp; done) | (simp; omega)) _) | (with_reducible refine Kept.trans ?_ (by with_reducible assumption))))⟩
    · clear hcb
      rcases hca with ha | ⟨ha, ha2⟩
      · have hz : True := trivial
        go_enter Try.func13, Try.ntmps13
        go_wp2_with fail
        (go_at_call 9; refine (KI.out _).mono ?_; rintro e w1 ⟨rfl, hk1⟩)
        have hB1_1 := hk1
        obtain ⟨hc1_1, hf1_1⟩ := kept_cells hB1_1
        have hz1_0_1 : w.heap.size < w1.heap.size := by have := hB1_1.size; simp at this; omega
        go_wp2
        go_ret
        exact ⟨by first | rfl | (simp; done), (by repeat (first | with_reducible exact Kept.refl _ | with_reducible assumption | with_reducible refine Kept.drew ?_ | with_reducible refine Kept.drewN ?_ _ | with_reducible refine Kept.alloc ?_ _ | (with_reducible refine Kept.setCell ?_ (by first | exact Nat.le_refl _ | omega | (simp; done) | (simp; omega)) _) | (with_reducible refine Kept.trans ?_ (by with_reducible assumption))))⟩
      · have hz : True := trivial
        go_enter Try.func13, Try.ntmps13
        go_wp2_with fail
        (go_at_call 9; refine (KI.out _).mono ?_; rintro e w1 ⟨rfl, hk1⟩)
        have hB1_1 := hk1
        obtain ⟨hc1_1, hf1_1⟩ := kept_cells hB1_1
        have hz1_0_1 : w.heap.size < w1.heap.size := by have := hB1_1.size; simp at this; omega
        go_wp2
        go_ret
        exact ⟨by first | rfl | (simp; done), (by repeat (first | with_reducible exact Kept.refl _ | with_reducible assumption | with_reducible refine Kept.drew ?_ | with_reducible refine Kept.drewN ?_ _ | with_reducible refine Kept.alloc ?_ _ | (with_reducible refine Kept.setCell ?_ (by first | exact Nat.le_refl _ | omega | (simp; done) | (simp; omega)) _) | (with_reducible refine Kept.trans ?_ (by with_reducible assumption))))⟩
end Go.Proofs.Ythhaicledbcnmaa

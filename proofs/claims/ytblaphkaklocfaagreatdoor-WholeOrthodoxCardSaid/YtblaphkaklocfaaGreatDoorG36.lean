/- Contracts: query's paschal, eastern, convert, whatever the date. -/
import Derived.Test.YtblaphkaklocfaaGreatDoorG30
import Derived.Test.YtblaphkaklocfaaGreatDoorG33
set_option linter.unusedSimpArgs false
set_option linter.unusedVariables false
set_option linter.unusedSectionVars false
namespace Go.Proofs.YtblaphkaklocfaaGreatDoor
open Go.ChangeShapes Go.WideShapes Go.ChangeAt Go.RowKit Go.Maps Go.ChangeMaps Go.MapKept
set_option maxHeartbeats 8000000
set_option maxRecDepth 20000

theorem fail_err0 (n : Int) (w : World) (h : n ≠ 0) : Calls Tryz.prog 43 #[.int .i64 n, .int .i64 0] w fun e w' => e = .panicked [{ v := .iface 83 (.agg #[.int .i64 n, .int .i64 0]), recovered := false }] ∧ Kept w w' := fail_err n 0 w h
theorem pasc_gen (K c m y a b d x1 x2 x3 n : Int) (t : ByteArray) (F : Nat) (w : World) (h10 : Tab10 w) (hK : (Lit.int .i64 m).wf = true)
    (e1 : methD.atKey (.int .i64 m) (.lit (.int .i64 (-1))) = .lit (.int .i64 F)) (e2 : Maps.has methD (.int .i64 m) = true)
    (hN : Hid (∀ args w, (callFunc F args).run Tryz.prog w = .ok (.enter F args) w)) (hb : (-1000000000000 ≤ x1 ∧ x1 ≤ 1000000000000) ∧ (-1000000000000 ≤ x2 ∧ x2 ≤ 1000000000000) ∧ (-1000000000000 ≤ x3 ∧ x3 ≤ 1000000000000))
    (KE : Hid (∀ w', Kept w w' → Calls Tryz.prog F #[.int .i64 c, .int .i64 y] w' fun e w2 => e = .returned (.tuple #[.agg #[.int .i64 x1, .int .i64 x2, .int .i64 x3], .int .i64 n]) ∧ Kept w' w2)) :
    Calls Tryz.prog 87 #[.agg #[.int .i64 K, .int .i64 c, .int .i64 m, .int .i64 y, .int .i64 a, .int .i64 b, .int .i64 d, .string t]] w fun e w' => ((n = 0 ∧ e = .returned (.string (dateT x1 x2 x3))) ∨ (n ≠ 0 ∧ e = .panicked [{ v := .iface 83 (.agg #[.int .i64 n, .int .i64 0]), recovered := false }])) ∧ Kept w w' := by
  have KM := Lib.hid (fun w => methods_of w)
  have KF := Lib.hid (fun w' => fail_ok 0 w')
  have KX := Lib.hid (fun w' h => fail_err0 n w' h)
  have KD := Lib.hid (fun w' (q : Kept w w') => DateText_ok x1 x2 x3 w' (h10.kept q) hb.1 hb.2.1 hb.2.2)
  have HE1 := Lib.hid e1
  have HE2 := Lib.hid e2
  have HK := Lib.hid hK
  clear h10 hb e1 e2 hK
  go_enter Tryz.func87, Tryz.ntmps87
  go_wp2_with fail
  obtain ⟨W1, hW1⟩ : ∃ x, x = w.alloc (.cells #[.int .i64 K, .int .i64 c, .int .i64 m, .int .i64 y, .int .i64 a, .int .i64 b, .int .i64 d, .string t] 33) := ⟨_, rfl⟩
  rw [← hW1]
  have k1 : Kept w W1 := by rw [hW1]; exact (Kept.refl w).alloc _
  have bQ : Blk W1 w.heap.size #[.int .i64 K, .int .i64 c, .int .i64 m, .int .i64 y, .int .i64 a, .int .i64 b, .int .i64 d, .string t] 33 := by rw [hW1]; exact Blk.new w _ _
  have c2 : W1.cell? ⟨w.heap.size, 2, none⟩ = some (.int .i64 m) := (bQ.cell _).trans rfl
  have lQ := bQ.lt
  have HQ := Lib.hid bQ
  clear hW1 bQ
  go_region_held3 (fun w' => Kept W1 w' ∧ (∀ b o, b < W1.heap.size → w'.cell? ⟨b, o, none⟩ = W1.cell? ⟨b, o, none⟩)) (exact held_of (by (repeat (first | with_reducible assumption | with_reducible exact Kept.refl _ | with_reducible apply Kept.drew | with_reducible apply Kept.alloc | (with_reducible refine Kept.setCell ?_ (by first | exact Nat.le_refl _ | (dsimp only; omega)) _))))) (first
    | (go_at_call 134; (with_reducible refine (KM.out _).mono ?_); rintro e w2 ⟨rfl, hown, hk2⟩; have kk2 : Kept W1 w2 := Kept.trans (by (repeat (first | with_reducible assumption | with_reducible exact Kept.refl _ | with_reducible apply Kept.drew | with_reducible apply Kept.alloc | (with_reducible refine Kept.setCell ?_ (by first | exact Nat.le_refl _ | (dsimp only; omega)) _)))) hk2; obtain ⟨v, ps, hrun, hv⟩ := hown.look_ok (t := 198) law_i under_me (zero_me _) (zd := .lit (.int .i64 (-1))) (zp := []) rfl (keyOf_int_mk Tryz.underlying3 (a := m) HK.out); rw [HE1.out] at hv; obtain rfl := fnElem_inv hv; rw [HE2.out] at hrun; (try simp only [World.size_drew, World.size_alloc] at hrun)))
  have bQ2 := HQ.out.kept kk2
  have q1 : w2.cell? ⟨w.heap.size, 1, none⟩ = some (.int .i64 c) := (bQ2.cell _).trans rfl
  have q3 : w2.cell? ⟨w.heap.size, 3, none⟩ = some (.int .i64 y) := (bQ2.cell _).trans rfl
  have lq := bQ2.lt
  have K2 := Lib.hid (k1.trans kk2)
  clear hown hk2 hrun hv bQ2 c2 lQ KM
  go_wp2_with fail
  rw [hN.out, Oper.upon_enter]
  refine (KE.out _ K2.out).mono ?_
  rintro e w3 ⟨rfl, hk3⟩
  have K3 := Lib.hid (K2.out.trans hk3)
  clear hk3 KE K2 q1 q3 lq
  by_cases hn : n = 0
  · subst hn
    go_wp2_with (first
      | (go_at_call 43; (with_reducible refine (KF.out _).mono ?_); rintro e w4 ⟨rfl, rfl⟩)
      | (go_at_call 10; (with_reducible refine (KD.out _ (K3.out.trans ?_)).mono ?_); (· (repeat (first | with_reducible assumption | with_reducible exact Kept.refl _ | with_reducible apply Kept.drew | with_reducible apply Kept.alloc | (with_reducible refine Kept.setCell ?_ (by first | exact Nat.le_refl _ | (dsimp only; omega)) _)))); rintro e w5 ⟨rfl, hk5⟩)
      | fail)
    go_ret
    exact ⟨rfl, (K3.out.trans (show Kept w3 _ from by (repeat (first | with_reducible assumption | with_reducible exact Kept.refl _ | with_reducible apply Kept.drew | with_reducible apply Kept.alloc | (with_reducible refine Kept.setCell ?_ (by first | exact Nat.le_refl _ | (dsimp only; omega)) _))))).trans hk5⟩
  · go_wp2_with (first
      | (go_at_call 43; (with_reducible refine (KX.out _ hn).mono ?_); rintro e w4 ⟨rfl, hk4⟩)
      | fail)
    exact ⟨rfl, .inr ⟨hn, rfl⟩, (K3.out.trans (show Kept w3 _ from by (repeat (first | with_reducible assumption | with_reducible exact Kept.refl _ | with_reducible apply Kept.drew | with_reducible apply Kept.alloc | (with_reducible refine Kept.setCell ?_ (by first | exact Nat.le_refl _ | (dsimp only; omega)) _))))).trans hk4⟩
theorem eas_gen (K c m y a b d x1 x2 x3 n : Int) (t : ByteArray) (w : World) (h10 : Tab10 w) (hb : (-1000000000000 ≤ x1 ∧ x1 ≤ 1000000000000) ∧ (-1000000000000 ≤ x2 ∧ x2 ≤ 1000000000000) ∧ (-1000000000000 ≤ x3 ∧ x3 ≤ 1000000000000))
    (KE : Hid (∀ w', Kept w w' → Calls Tryz.prog 14 #[.int .i64 y] w' fun e w2 => e = .returned (.tuple #[.agg #[.int .i64 x1, .int .i64 x2, .int .i64 x3], .int .i64 n]) ∧ Kept w' w2)) :
    Calls Tryz.prog 88 #[.agg #[.int .i64 K, .int .i64 c, .int .i64 m, .int .i64 y, .int .i64 a, .int .i64 b, .int .i64 d, .string t]] w fun e w' => ((n = 0 ∧ e = .returned (.string (dateT x1 x2 x3))) ∨ (n ≠ 0 ∧ e = .panicked [{ v := .iface 83 (.agg #[.int .i64 n, .int .i64 0]), recovered := false }])) ∧ Kept w w' := by
  have KF := Lib.hid (fun w' => fail_ok 0 w')
  have KX := Lib.hid (fun w' h => fail_err0 n w' h)
  have KD := Lib.hid (fun w' (q : Kept w w') => DateText_ok x1 x2 x3 w' (h10.kept q) hb.1 hb.2.1 hb.2.2)
  clear h10 hb
  go_enter Tryz.func88, Tryz.ntmps88
  go_wp2_with fail
  go_at_call 14
  refine (KE.out _ (by (repeat (first | with_reducible assumption | with_reducible exact Kept.refl _ | with_reducible apply Kept.drew | with_reducible apply Kept.alloc | (with_reducible refine Kept.setCell ?_ (by first | exact Nat.le_refl _ | (dsimp only; omega)) _))))).mono ?_
  rintro e w3 ⟨rfl, hk3⟩
  have K3 := Lib.hid (Kept.trans (show Kept w _ from by (repeat (first | with_reducible assumption | with_reducible exact Kept.refl _ | with_reducible apply Kept.drew | with_reducible apply Kept.alloc | (with_reducible refine Kept.setCell ?_ (by first | exact Nat.le_refl _ | (dsimp only; omega)) _)))) hk3)
  clear hk3 KE
  by_cases hn : n = 0
  · subst hn
    go_wp2_with (first
      | (go_at_call 43; (with_reducible refine (KF.out _).mono ?_); rintro e w4 ⟨rfl, rfl⟩)
      | (go_at_call 10; (with_reducible refine (KD.out _ (K3.out.trans ?_)).mono ?_); (· (repeat (first | with_reducible assumption | with_reducible exact Kept.refl _ | with_reducible apply Kept.drew | with_reducible apply Kept.alloc | (with_reducible refine Kept.setCell ?_ (by first | exact Nat.le_refl _ | (dsimp only; omega)) _)))); rintro e w5 ⟨rfl, hk5⟩)
      | fail)
    go_ret
    exact ⟨rfl, (K3.out.trans (show Kept w3 _ from by (repeat (first | with_reducible assumption | with_reducible exact Kept.refl _ | with_reducible apply Kept.drew | with_reducible apply Kept.alloc | (with_reducible refine Kept.setCell ?_ (by first | exact Nat.le_refl _ | (dsimp only; omega)) _))))).trans hk5⟩
  · go_wp2_with (first
      | (go_at_call 43; (with_reducible refine (KX.out _ hn).mono ?_); rintro e w4 ⟨rfl, hk4⟩)
      | fail)
    exact ⟨rfl, .inr ⟨hn, rfl⟩, (K3.out.trans (show Kept w3 _ from by (repeat (first | with_reducible assumption | with_reducible exact Kept.refl _ | with_reducible apply Kept.drew | with_reducible apply Kept.alloc | (with_reducible refine Kept.setCell ?_ (by first | exact Nat.le_refl _ | (dsimp only; omega)) _))))).trans hk4⟩
theorem con_gen (K c m y a b d x1 x2 x3 n : Int) (t : ByteArray) (w : World) (h10 : Tab10 w) (hb : (-1000000000000 ≤ x1 ∧ x1 ≤ 1000000000000) ∧ (-1000000000000 ≤ x2 ∧ x2 ≤ 1000000000000) ∧ (-1000000000000 ≤ x3 ∧ x3 ≤ 1000000000000)) (hc : 0 ≤ c ∧ c ≤ 3)
    (KE : Hid (∀ w', Kept w w' → Calls Tryz.prog 135 #[.agg #[.int .i64 a, .int .i64 b, .int .i64 d], .int .i64 c, .int .i64 (3 - c)] w' fun e w2 => e = .returned (.tuple #[.agg #[.int .i64 x1, .int .i64 x2, .int .i64 x3], .int .i64 n]) ∧ Kept w' w2)) :
    Calls Tryz.prog 89 #[.agg #[.int .i64 K, .int .i64 c, .int .i64 m, .int .i64 y, .int .i64 a, .int .i64 b, .int .i64 d, .string t]] w fun e w' => ((n = 0 ∧ e = .returned (.string (dateT x1 x2 x3))) ∨ (n ≠ 0 ∧ e = .panicked [{ v := .iface 83 (.agg #[.int .i64 n, .int .i64 0]), recovered := false }])) ∧ Kept w w' := by
  have KF := Lib.hid (fun w' => fail_ok 0 w')
  have KX := Lib.hid (fun w' h => fail_err0 n w' h)
  have KD := Lib.hid (fun w' (q : Kept w w') => DateText_ok x1 x2 x3 w' (h10.kept q) hb.1 hb.2.1 hb.2.2)
  clear h10 hb
  go_enter Tryz.func89, Tryz.ntmps89
  go_wp2_with fail
  go_at_call 135
  refine (KE.out _ (by (repeat (first | with_reducible assumption | with_reducible exact Kept.refl _ | with_reducible apply Kept.drew | with_reducible apply Kept.alloc | (with_reducible refine Kept.setCell ?_ (by first | exact Nat.le_refl _ | (dsimp only; omega)) _))))).mono ?_
  rintro e w3 ⟨rfl, hk3⟩
  have K3 := Lib.hid (Kept.trans (show Kept w _ from by (repeat (first | with_reducible assumption | with_reducible exact Kept.refl _ | with_reducible apply Kept.drew | with_reducible apply Kept.alloc | (with_reducible refine Kept.setCell ?_ (by first | exact Nat.le_refl _ | (dsimp only; omega)) _)))) hk3)
  clear hk3 KE
  by_cases hn : n = 0
  · subst hn
    go_wp2_with (first
      | (go_at_call 43; (with_reducible refine (KF.out _).mono ?_); rintro e w4 ⟨rfl, rfl⟩)
      | (go_at_call 10; (with_reducible refine (KD.out _ (K3.out.trans ?_)).mono ?_); (· (repeat (first | with_reducible assumption | with_reducible exact Kept.refl _ | with_reducible apply Kept.drew | with_reducible apply Kept.alloc | (with_reducible refine Kept.setCell ?_ (by first | exact Nat.le_refl _ | (dsimp only; omega)) _)))); rintro e w5 ⟨rfl, hk5⟩)
      | fail)
    go_ret
    exact ⟨rfl, (K3.out.trans (show Kept w3 _ from by (repeat (first | with_reducible assumption | with_reducible exact Kept.refl _ | with_reducible apply Kept.drew | with_reducible apply Kept.alloc | (with_reducible refine Kept.setCell ?_ (by first | exact Nat.le_refl _ | (dsimp only; omega)) _))))).trans hk5⟩
  · go_wp2_with (first
      | (go_at_call 43; (with_reducible refine (KX.out _ hn).mono ?_); rintro e w4 ⟨rfl, hk4⟩)
      | fail)
    exact ⟨rfl, .inr ⟨hn, rfl⟩, (K3.out.trans (show Kept w3 _ from by (repeat (first | with_reducible assumption | with_reducible exact Kept.refl _ | with_reducible apply Kept.drew | with_reducible apply Kept.alloc | (with_reducible refine Kept.setCell ?_ (by first | exact Nat.le_refl _ | (dsimp only; omega)) _))))).trans hk4⟩
end Go.Proofs.YtblaphkaklocfaaGreatDoor

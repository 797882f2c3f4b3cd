/- Contracts and plain lemmas: Qr5, Qr6, Ev1. -/
import Derived.Test.YtblaphkaklocfaaGreatDoorG07
import Derived.Test.YtblaphkaklocfaaGreatDoorG34
set_option linter.unusedSimpArgs false
set_option linter.unusedVariables false
set_option linter.unusedSectionVars false
/- Contract: query.paschal at the table's method, where there is a date. -/
namespace Go.Proofs.YtblaphkaklocfaaGreatDoor
open Go.ChangeShapes Go.WideShapes Go.ChangeAt Go.RowKit Go.Maps Go.ChangeMaps Go.MapKept
set_option maxHeartbeats 8000000
set_option maxRecDepth 20000

theorem pasc_ok (c y : Int) (w : World) (hT : RTab w) (h10 : Tab10 w) (hc : Sm c) (h0 : flE c y = 0) (hb : (-1000000000000 ≤ edY c y ∧ edY c y ≤ 1000000000000) ∧ (-1000000000000 ≤ edM c y ∧ edM c y ≤ 1000000000000) ∧ (-1000000000000 ≤ edD c y ∧ edD c y ≤ 1000000000000)) :
    Calls Tryz.prog 87 #[.agg #[.int .i64 1, .int .i64 c, .int .i64 1, .int .i64 y, .int .i64 0, .int .i64 0, .int .i64 0, .string ⟨#[]⟩]] w fun e w' => e = .returned (.string (dateT (edY c y) (edM c y) (edD c y))) ∧ Kept w w' := by
  have KM := Lib.hid (fun w => methods_of w)
  have KE := Lib.hid (fun w' (q : Kept w w') => by have := EDate_any c y w' (hT.kept q) hc; rw [h0] at this; exact this)
  have KF := Lib.hid (fun w' => fail_ok 0 w')
  have KD := Lib.hid (fun w' (q : Kept w w') => DateText_ok (edY c y) (edM c y) (edD c y) w' (h10.kept q) hb.1 hb.2.1 hb.2.2)
  have e1 : methD.atKey (.int .i64 1) (.lit (.int .i64 (-1))) = .lit (.int .i64 13) := by kernel_rfl
  have e2 : Maps.has methD (.int .i64 1) = true := by kernel_rfl
  clear hT h10 h0 hb
  generalize edY c y = a at *
  generalize edM c y = b at *
  generalize edD c y = d at *
  go_enter Tryz.func87, Tryz.ntmps87
  go_wp2_with fail
  obtain ⟨W1, hW1⟩ : ∃ x, x = w.alloc (.cells #[.int .i64 1, .int .i64 c, .int .i64 1, .int .i64 y, .int .i64 0, .int .i64 0, .int .i64 0, .string ⟨#[]⟩] 33) := ⟨_, rfl⟩
  rw [← hW1]
  have k1 : Kept w W1 := by rw [hW1]; exact (Kept.refl w).alloc _
  have bQ : Blk W1 w.heap.size #[.int .i64 1, .int .i64 c, .int .i64 1, .int .i64 y, .int .i64 0, .int .i64 0, .int .i64 0, .string ⟨#[]⟩] 33 := by rw [hW1]; exact Blk.new w _ _
  have c2 : W1.cell? ⟨w.heap.size, 2, none⟩ = some (.int .i64 1) := (bQ.cell _).trans rfl
  have lQ := bQ.lt
  have HQ := Lib.hid bQ
  clear hW1 bQ
  go_region_held3 (fun w' => Kept W1 w' ∧ (∀ b o, b < W1.heap.size → w'.cell? ⟨b, o, none⟩ = W1.cell? ⟨b, o, none⟩)) (exact held_of (by (repeat (first | with_reducible assumption | with_reducible exact Kept.refl _ | with_reducible apply Kept.drew | with_reducible apply Kept.alloc | (with_reducible refine Kept.setCell ?_ (by first | exact Nat.le_refl _ | (dsimp only; omega)) _))))) (first
    | (go_at_call 134; (with_reducible refine (KM.out _).mono ?_); rintro e w2 ⟨rfl, hown, hk2⟩; have kk2 : Kept W1 w2 := Kept.trans (by (repeat (first | with_reducible assumption | with_reducible exact Kept.refl _ | with_reducible apply Kept.drew | with_reducible apply Kept.alloc | (with_reducible refine Kept.setCell ?_ (by first | exact Nat.le_refl _ | (dsimp only; omega)) _)))) hk2; obtain ⟨v, ps, hrun, hv⟩ := hown.look_ok (t := 198) law_i under_me (zero_me _) (zd := .lit (.int .i64 (-1))) (zp := []) rfl (keyOf_int_mk Tryz.underlying3 (a := 1) (by decide)); rw [e1] at hv; obtain rfl := fnElem_inv hv; rw [e2] at hrun; (try simp only [World.size_drew, World.size_alloc] at hrun)))
  have bQ2 := HQ.out.kept kk2
  have q1 : w2.cell? ⟨w.heap.size, 1, none⟩ = some (.int .i64 c) := (bQ2.cell _).trans rfl
  have q3 : w2.cell? ⟨w.heap.size, 3, none⟩ = some (.int .i64 y) := (bQ2.cell _).trans rfl
  have lq := bQ2.lt
  have K2 := Lib.hid (k1.trans kk2)
  clear hown hk2 hrun hv bQ2 c2 lQ KM
  go_wp2_with fail
  go_at_call 13
  refine (KE.out _ K2.out).mono ?_
  rintro e w3 ⟨rfl, hk3⟩
  have K3 := Lib.hid (K2.out.trans hk3)
  clear hk3 KE K2 q1 q3 lq
  go_wp2_with (first
    | (go_at_call 43; (with_reducible refine (KF.out _).mono ?_); rintro e w4 ⟨rfl, rfl⟩)
    | (go_at_call 10; (with_reducible refine (KD.out _ (K3.out.trans ?_)).mono ?_); (· (repeat (first | with_reducible assumption | with_reducible exact Kept.refl _ | with_reducible apply Kept.drew | with_reducible apply Kept.alloc | (with_reducible refine Kept.setCell ?_ (by first | exact Nat.le_refl _ | (dsimp only; omega)) _)))); rintro e w5 ⟨rfl, hk5⟩)
    | fail)
  go_ret
  exact ⟨rfl, (K3.out.trans (show Kept w3 _ from by (repeat (first | with_reducible assumption | with_reducible exact Kept.refl _ | with_reducible apply Kept.drew | with_reducible apply Kept.alloc | (with_reducible refine Kept.setCell ?_ (by first | exact Nat.le_refl _ | (dsimp only; omega)) _))))).trans hk5⟩
end Go.Proofs.YtblaphkaklocfaaGreatDoor
/- Contract: query.Ask at Easter by the table, where there is a date. -/
namespace Go.Proofs.YtblaphkaklocfaaGreatDoor
open Go.ChangeShapes Go.WideShapes Go.ChangeAt Go.RowKit Go.Maps Go.ChangeMaps Go.MapKept
set_option maxHeartbeats 8000000
set_option maxRecDepth 20000

theorem ask_table (c y : Int) (w : World) (hT : RTab w) (h10 : Tab10 w) (hc : Sm c) (h0 : flE c y = 0) (hb : (-1000000000000 ≤ edY c y ∧ edY c y ≤ 1000000000000) ∧ (-1000000000000 ≤ edM c y ∧ edM c y ≤ 1000000000000) ∧ (-1000000000000 ≤ edD c y ∧ edD c y ≤ 1000000000000)) :
    Calls Tryz.prog 12 #[.agg #[.int .i64 1, .int .i64 c, .int .i64 1, .int .i64 y, .int .i64 0, .int .i64 0, .int .i64 0, .string ⟨#[]⟩]] w fun e w' => e = .returned (.agg #[.string (dateT (edY c y) (edM c y) (edD c y)), .int .i64 0, .int .i64 0]) ∧ Kept w w' := by
  have hmf : ∀ (fn : Fn) (first cap : Array Value) (w : World), (Instr.makeFunc fn first cap).run Tryz.prog w = .ok (.func fn first cap) w := fun _ _ _ _ => rfl
  have KF := Lib.hid (fun w => kinds_of w)
  have KW := Lib.hid (fun w' (q : Kept w w') => pasc_ok c y w' (hT.kept q) (h10.kept q) hc h0 hb)
  have e1 : kindsD.atKey (.int .i64 1) (.lit (.int .i64 (-1))) = .lit (.int .i64 87) := by kernel_rfl
  have e2 : Maps.has kindsD (.int .i64 1) = true := by kernel_rfl
  clear hT h10 hc h0 hb
  go_enter_defers Tryz.func12, Tryz.ntmps12
  go_wp2_with fail
  obtain ⟨W1, hW1⟩ : ∃ x, x = (w.alloc (.cells #[.int .i64 1, .int .i64 c, .int .i64 1, .int .i64 y, .int .i64 0, .int .i64 0, .int .i64 0, .string ⟨#[]⟩] 33)).alloc (.cells #[.string ⟨#[]⟩, .int .i64 0, .int .i64 0] 25) := ⟨_, rfl⟩
  rw [← hW1]
  have k1 : Kept w W1 := by rw [hW1]; exact ((Kept.refl w).alloc _).alloc _
  have bQ : Blk W1 w.heap.size #[.int .i64 1, .int .i64 c, .int .i64 1, .int .i64 y, .int .i64 0, .int .i64 0, .int .i64 0, .string ⟨#[]⟩] 33 := by rw [hW1]; exact (Blk.new w _ _).alloc _
  have bO : Hid (Blk W1 (w.heap.size + 1) #[.string ⟨#[]⟩, .int .i64 0, .int .i64 0] 25) := (show Blk _ _ _ _ from by
    rw [hW1]
    have := Blk.new (w.alloc (.cells #[.int .i64 1, .int .i64 c, .int .i64 1, .int .i64 y, .int .i64 0, .int .i64 0, .int .i64 0, .string ⟨#[]⟩] 33)) #[.string ⟨#[]⟩, .int .i64 0, .int .i64 0] 25
    rw [World.size_alloc] at this
    exact this)
  have c0 : W1.cell? ⟨w.heap.size, 0, none⟩ = some (.int .i64 1) := (bQ.cell _).trans rfl
  have lQ := bQ.lt
  have HQ := Lib.hid bQ
  clear hW1 bQ
  go_region_held3 (fun w' => Kept W1 w' ∧ (∀ b o, b < W1.heap.size → w'.cell? ⟨b, o, none⟩ = W1.cell? ⟨b, o, none⟩)) (exact held_of (by (repeat (first | with_reducible assumption | with_reducible exact Kept.refl _ | with_reducible apply Kept.drew | with_reducible apply Kept.alloc | (with_reducible refine Kept.setCell ?_ (by first | exact Nat.le_refl _ | (dsimp only; omega)) _))))) (first
    | (go_at_call 42; (with_reducible refine (KF.out _).mono ?_); rintro e w2 ⟨rfl, hown, hk2⟩; have kk2 : Kept W1 w2 := Kept.trans (by (repeat (first | with_reducible assumption | with_reducible exact Kept.refl _ | with_reducible apply Kept.drew | with_reducible apply Kept.alloc | (with_reducible refine Kept.setCell ?_ (by first | exact Nat.le_refl _ | (dsimp only; omega)) _)))) hk2; obtain ⟨v, ps, hrun, hv⟩ := hown.look_ok (t := 87) law_i under_k (zero_k _) (zd := .lit (.int .i64 (-1))) (zp := []) rfl (keyOf_int_mk Tryz.underlying3 (a := 1) (by decide)); rw [e1] at hv; obtain rfl := fnElem_inv hv; rw [e2] at hrun; (try simp only [World.size_drew, World.size_alloc] at hrun)))
  have bQ2 := HQ.out.kept kk2
  have q0 : w2.cell? ⟨w.heap.size, 0, none⟩ = some (.int .i64 1) := (bQ2.cell _).trans rfl
  have q1 : w2.cell? ⟨w.heap.size, 1, none⟩ = some (.int .i64 c) := (bQ2.cell _).trans rfl
  have q2 : w2.cell? ⟨w.heap.size, 2, none⟩ = some (.int .i64 1) := (bQ2.cell _).trans rfl
  have q3 : w2.cell? ⟨w.heap.size, 3, none⟩ = some (.int .i64 y) := (bQ2.cell _).trans rfl
  have q4 : w2.cell? ⟨w.heap.size, 4, none⟩ = some (.int .i64 0) := (bQ2.cell _).trans rfl
  have q5 : w2.cell? ⟨w.heap.size, 5, none⟩ = some (.int .i64 0) := (bQ2.cell _).trans rfl
  have q6 : w2.cell? ⟨w.heap.size, 6, none⟩ = some (.int .i64 0) := (bQ2.cell _).trans rfl
  have q7 : w2.cell? ⟨w.heap.size, 7, none⟩ = some (.string ⟨#[]⟩) := (bQ2.cell _).trans rfl
  have lq := bQ2.lt
  have bO2 := Lib.hid (bO.out.kept kk2)
  have K2 := Lib.hid (k1.trans kk2)
  clear hown hk2 hrun hv bQ2 c0 lQ KF
  go_wp2_with fail
  go_at_call 87
  refine (KW.out _ K2.out).mono ?_
  rintro e w3 ⟨rfl, hk3⟩
  have bO3 := bO2.out.kept hk3
  have K3 := Lib.hid (K2.out.trans hk3)
  have r0 : w3.cell? ⟨w.heap.size + 1, 0, none⟩ = some (.string ⟨#[]⟩) := (bO3.cell _).trans rfl
  have r1 : w3.cell? ⟨w.heap.size + 1, 1, none⟩ = some (.int .i64 0) := (bO3.cell _).trans rfl
  have r2 : w3.cell? ⟨w.heap.size + 1, 2, none⟩ = some (.int .i64 0) := (bO3.cell _).trans rfl
  have g0 := bO3.free 0
  have g1 := bO3.free 1
  have g2 := bO3.free 2
  have lO := bO3.lt
  have HO3 := Lib.hid bO3
  clear hk3 bO3 KW bO2 bO q0 q1 q2 q3 q4 q5 q6 q7
  generalize hdt : dateT (edY c y) (edM c y) (edD c y) = dt at *
  go_wp2
  have B0 : Blk (w3.setCell ⟨w.heap.size + 1, 0, none⟩ (.string dt)) (w.heap.size + 1) #[.string dt, .int .i64 0, .int .i64 0] 25 := blk_set HO3.out _ rfl
  have B1 : Blk ((w3.setCell ⟨w.heap.size + 1, 0, none⟩ (.string dt)).setCell ⟨w.heap.size + 1, 1, none⟩ (.int .i64 0)) (w.heap.size + 1) #[.string dt, .int .i64 0, .int .i64 0] 25 := blk_set B0 _ rfl
  have B2 : Blk (((w3.setCell ⟨w.heap.size + 1, 0, none⟩ (.string dt)).setCell ⟨w.heap.size + 1, 1, none⟩ (.int .i64 0)).setCell ⟨w.heap.size + 1, 2, none⟩ (.int .i64 0)) (w.heap.size + 1) #[.string dt, .int .i64 0, .int .i64 0] 25 := blk_set B1 _ rfl
  refine leaves_cons (f := 41) (args := #[.pointer (some ⟨w.heap.size + 1, 0, none⟩)]) (by simp) (by simp [go_sem]) ?_
  refine (ask1_idle _ _).mono ?_
  rintro e u' w'' ⟨rfl, rfl, rfl⟩
  have z0 := B2.cell 0
  have z1 := B2.cell 1
  have z2 := B2.cell 2
  have K4 : Kept w (((w3.setCell ⟨w.heap.size + 1, 0, none⟩ (.string dt)).setCell ⟨w.heap.size + 1, 1, none⟩ (.int .i64 0)).setCell ⟨w.heap.size + 1, 2, none⟩ (.int .i64 0)) := Kept.setCell (Kept.setCell (Kept.setCell K3.out (by simp) _) (by simp) _) (by simp) _
  simp [Leaves, settle, results, Tryz.results12, go_sem, z0, z1, z2, K4]
  exact hdt.symm
end Go.Proofs.YtblaphkaklocfaaGreatDoor
/- Plain: the two texts that awake expects. -/
namespace Go.Proofs.YtblaphkaklocfaaGreatDoor
open Go.ChangeShapes Go.WideShapes Go.ChangeAt Go.RowKit
set_option maxRecDepth 100000

theorem tx_a : dateT 2024 3 31 = ⟨#[50, 48, 50, 52, 32, 51, 32, 51, 49]⟩ := by
  unfold dateT itoB Lib.itoa
  simp [Lib.decDigits]
  rfl
theorem tx_b : dateT 2024 4 8 = ⟨#[50, 48, 50, 52, 32, 52, 32, 56]⟩ := by
  unfold dateT itoB Lib.itoa
  simp [Lib.decDigits]
  rfl
theorem ed_24 : flE 2 2024 = 0 ∧ edY 2 2024 = 2024 ∧ edM 2 2024 = 3 ∧ edD 2 2024 = 31 := by decide +kernel
end Go.Proofs.YtblaphkaklocfaaGreatDoor

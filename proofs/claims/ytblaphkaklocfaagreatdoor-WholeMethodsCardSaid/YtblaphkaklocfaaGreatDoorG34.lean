/- Contracts and plain lemmas: Qr2, Qr4. -/
import Derived.Test.YtblaphkaklocfaaGreatDoorG31
import Derived.Test.YtblaphkaklocfaaGreatDoorG32
import Derived.Test.YtblaphkaklocfaaGreatDoorG33
import Derived.Deep.RegionHeld3
import Derived.Deep.DeepCutAuto
import Derived.Outline
set_option linter.unusedSimpArgs false
set_option linter.unusedVariables false
set_option linter.unusedSectionVars false
/- Contract: query.where at the built-in catalogue in 2024. -/
namespace Go.Proofs.YtblaphkaklocfaaGreatDoor
open Go.ChangeShapes Go.WideShapes Go.ChangeAt Go.RowKit
set_option maxHeartbeats 8000000
set_option maxRecDepth 20000

def okRecs (L : List Rec) : Bool := L.all (fun r => decide (r.s.size ≤ maxLen) && (decide (-9223372036854775808 ≤ r.c) && decide (r.c ≤ 9223372036854775807)))
theorem okRecs_all {L : List Rec} (h : okRecs L = true) : ∀ r ∈ L, r.ok := fun r hr => by
  have h1 := List.all_eq_true.1 h r hr
  obtain ⟨a, b⟩ := Bool.and_eq_true_iff.1 h1
  obtain ⟨b, c⟩ := Bool.and_eq_true_iff.1 b
  exact ⟨of_decide_eq_true a, of_decide_eq_true b, of_decide_eq_true c⟩
theorem ctx_b : Ctx 5 bSeas bFeas 2024 := ⟨ev_catB, by decide, by decide, okRecs_all (by decide +kernel), okRecs_all (by decide +kernel)⟩
theorem ctx_0 : Ctx 5 [r0] [] 2024 := ⟨ev_cat0, by decide, by decide, okRecs_all (by decide +kernel), okRecs_all (by decide +kernel)⟩
theorem fill3 {b : World} {n : Nat} {t : TypeId} {y0 y1 y2 : Value} (h : Blk b n #[y0, y1, y2] t) (x0 x1 x2 : Value) {W1 : World} (k : Kept W1 b) (hn : W1.heap.size ≤ n) : Blk (((b.setCell ⟨n, 0, none⟩ x0).setCell ⟨n, 1, none⟩ x1).setCell ⟨n, 2, none⟩ x2) n #[x0, x1, x2] t ∧ Kept W1 (((b.setCell ⟨n, 0, none⟩ x0).setCell ⟨n, 1, none⟩ x1).setCell ⟨n, 2, none⟩ x2) := by
  have z0 : Blk (b.setCell ⟨n, 0, none⟩ x0) n #[x0, y1, y2] t := blk_set h _ rfl
  have z1 : Blk ((b.setCell ⟨n, 0, none⟩ x0).setCell ⟨n, 1, none⟩ x1) n #[x0, x1, y2] t := blk_set z0 _ rfl
  exact ⟨blk_set z1 _ rfl, Kept.setCell (Kept.setCell (Kept.setCell k hn _) hn _) hn _⟩
theorem qwhere_ok (w : World) (hT : RTab w) (h10 : Tab10 w) : Calls Tryz.prog 92 #[.agg #[.int .i64 6, .int .i64 0, .int .i64 0, .int .i64 2024, .int .i64 0, .int .i64 0, .int .i64 0, .string sAnn]] w fun e w' => e = .returned (.string (dateT 2024 4 8)) ∧ Kept w w' := by
  obtain ⟨T, hm, hw, hb⟩ := ev_some
  have KC := Lib.hid (fun w' => Cat_ok w')
  have KK := Lib.hid (fun o o' w' (q : Kept w w') (h1 : IsRecs w' o bSeas) (h2 : IsRecs w' o' bFeas) => (show Calls Tryz.prog 137 #[.agg #[.int .i64 5, .slice o 8 8, .slice o' 25 25], .int .i64 2024] w' fun e w2 => ∃ ve le, e = .returned (.agg #[.int .i64 2024, ve]) ∧ EntSt w'.heap.size w2 ve le ∧ le.map Prod.fst = entsC bSeas bFeas 2024 T ∧ Kept w' w2 from calendar_ok ctx_b o o' 8 25 w' ⟨hT.kept q, h1, h2⟩ T hm (fun i hi => stableAt_small _ (ev_small i (by rw [ev_len] at hi; exact hi)))))
  have KF := Lib.hid (fun w' => fail_ok 0 w')
  have KD := Lib.hid (fun w' (q : Kept w w') => DateText_ok 2024 4 8 w' (h10.kept q) (by omega) (by omega) (by omega))
  have HW := Lib.hid hw
  have HB := Lib.hid hb
  have KWr := Lib.hid (fun ve le b w' (h : EntSt b w' ve le) (hle : le.map Prod.fst = entsC bSeas bFeas 2024 T) => (show Calls Tryz.prog 138 #[.agg #[.int .i64 2024, ve], .string sAnn] w' fun e w2 => e = .returned (.tuple #[.agg #[.int .i64 2024, .int .i64 4, .int .i64 8], .bool true]) ∧ Kept w' w2 from by
    have hlen : le.length = 366 := by have := congrArg List.length hle; simp only [List.length_map, entsC, List.length_range] at this; rw [ev_len] at this; exact this
    have := Where_ok 2024 ve le sAnn b w' h (by omega) (by omega) (fun x hx => hb x.1 (by rw [← hle]; exact List.mem_map.2 ⟨x, hx, rfl⟩))
    rw [hle, hw] at this
    exact this))
  clear hT h10 hm hw hb
  go_enter Tryz.func92, Tryz.ntmps92
  go_wp2_with fail
  obtain ⟨W1, hW1⟩ : ∃ x, x = w.alloc (.cells #[.int .i64 6, .int .i64 0, .int .i64 0, .int .i64 2024, .int .i64 0, .int .i64 0, .int .i64 0, .string sAnn] 33) := ⟨_, rfl⟩
  rw [← hW1]
  have k1 : Kept w W1 := by rw [hW1]; exact (Kept.refl w).alloc _
  have bQ : Blk W1 w.heap.size #[.int .i64 6, .int .i64 0, .int .i64 0, .int .i64 2024, .int .i64 0, .int .i64 0, .int .i64 0, .string sAnn] 33 := by rw [hW1]; exact Blk.new w _ _
  have c3 : W1.cell? ⟨w.heap.size, 3, none⟩ = some (.int .i64 2024) := (bQ.cell _).trans rfl
  have c7 : W1.cell? ⟨w.heap.size, 7, none⟩ = some (.string sAnn) := (bQ.cell _).trans rfl
  have lQ := bQ.lt
  clear hW1 bQ
  generalize sAnn = ann at *
  go_cut [3, 4] (fun s3 s4 wx => ∃ A, s3 = .pointer (some ⟨A, 0, none⟩) ∧ s4 = .bool true ∧ Hid (Blk wx A #[.int .i64 2024, .int .i64 4, .int .i64 8] 29) ∧ Kept W1 wx)
  case first =>
    go_region_held3 (fun w' => Kept W1 w' ∧ (∀ b o, b < W1.heap.size → w'.cell? ⟨b, o, none⟩ = W1.cell? ⟨b, o, none⟩)) (exact held_of (by (repeat (first | with_reducible assumption | with_reducible exact Kept.refl _ | with_reducible apply Kept.drew | with_reducible apply Kept.alloc | (with_reducible refine Kept.setCell ?_ (by first | exact Nat.le_refl _ | (dsimp only; omega)) _))))) (first
      | (go_at_call 31; (with_reducible refine (KC.out _).mono ?_); rintro e w2 ⟨o, o', rfl, hr1, hr2, hk2⟩; have kk2 : Kept W1 w2 := Kept.trans (by (repeat (first | with_reducible assumption | with_reducible exact Kept.refl _ | with_reducible apply Kept.drew | with_reducible apply Kept.alloc | (with_reducible refine Kept.setCell ?_ (by first | exact Nat.le_refl _ | (dsimp only; omega)) _)))) hk2; have sz2 := kk2.size; have zz2 := hk2.size; (try simp only [World.size_alloc, World.size_drew] at zz2); obtain ⟨hc2, hf2⟩ := kept_cells hk2; (first | (have ya2 : W1.heap.size < w2.heap.size := (by omega)) | skip))
      | (go_at_call 137; (with_reducible refine (KK.out o o' _ (k1.trans ?_) (hr1.kept ?_) (hr2.kept ?_)).mono ?_); (· (repeat (first | with_reducible assumption | with_reducible exact Kept.refl _ | with_reducible apply Kept.drew | with_reducible apply Kept.alloc | (with_reducible refine Kept.setCell ?_ (by first | exact Nat.le_refl _ | (dsimp only; omega)) _)))); (· (repeat (first | with_reducible assumption | with_reducible exact Kept.refl _ | with_reducible apply Kept.drew | with_reducible apply Kept.alloc | (with_reducible refine Kept.setCell ?_ (by first | exact Nat.le_refl _ | (dsimp only; omega)) _)))); (· (repeat (first | with_reducible assumption | with_reducible exact Kept.refl _ | with_reducible apply Kept.drew | with_reducible apply Kept.alloc | (with_reducible refine Kept.setCell ?_ (by first | exact Nat.le_refl _ | (dsimp only; omega)) _)))); rintro e w3 ⟨ve, le, rfl, hE, hle, hk3⟩; have kk3 : Kept W1 w3 := Kept.trans (by (repeat (first | with_reducible assumption | with_reducible exact Kept.refl _ | with_reducible apply Kept.drew | with_reducible apply Kept.alloc | (with_reducible refine Kept.setCell ?_ (by first | exact Nat.le_refl _ | (dsimp only; omega)) _)))) hk3; have sz3 := kk3.size; have zz3 := hk3.size; (try simp only [World.size_alloc, World.size_drew] at zz3); obtain ⟨hc3, hf3⟩ := kept_cells hk3; (first | (have ya3 : W1.heap.size < w3.heap.size := (by omega)) | skip); (first | (have yb3 : w2.heap.size < w3.heap.size := (by omega)) | skip))
      | (go_at_call 138; (with_reducible refine (KWr.out ve le _ _ (hE.kept ?_) hle).mono ?_); (· (repeat (first | with_reducible assumption | with_reducible exact Kept.refl _ | with_reducible apply Kept.drew | with_reducible apply Kept.alloc | (with_reducible refine Kept.setCell ?_ (by first | exact Nat.le_refl _ | (dsimp only; omega)) _)))); rintro e w4 ⟨rfl, hk4⟩; have kk4 : Kept W1 w4 := Kept.trans (by (repeat (first | with_reducible assumption | with_reducible exact Kept.refl _ | with_reducible apply Kept.drew | with_reducible apply Kept.alloc | (with_reducible refine Kept.setCell ?_ (by first | exact Nat.le_refl _ | (dsimp only; omega)) _)))) hk4; have sz4 := kk4.size; have zz4 := hk4.size; (try simp only [World.size_alloc, World.size_drew] at zz4); obtain ⟨hc4, hf4⟩ := kept_cells hk4; (first | (have ya4 : W1.heap.size < w4.heap.size := (by omega)) | skip); (first | (have yb4 : w2.heap.size < w4.heap.size := (by omega)) | skip); (first | (have yc4 : w3.heap.size < w4.heap.size := (by omega)) | skip)))
    all_goals (go_wp2_with fail; go_meet)
    · exact ⟨_, rfl, rfl, Lib.hid (Blk.new w4 _ _), kk4.alloc _⟩
    · exact ⟨_, rfl, rfl, Lib.hid (fill3 ((Blk.new w3 _ _).kept hk4) _ _ _ kk4 sz3).1, (fill3 ((Blk.new w3 _ _).kept hk4) _ _ _ kk4 sz3).2⟩
    · exact ⟨_, rfl, rfl, Lib.hid (fill3 (((Blk.new w2 _ _).kept hk3).kept hk4) _ _ _ kk4 sz2).1, (fill3 (((Blk.new w2 _ _).kept hk3).kept hk4) _ _ _ kk4 sz2).2⟩
    · exact ⟨_, rfl, rfl, Lib.hid (fill3 ((((Blk.new W1 _ _).drew.kept hk2).kept hk3).kept hk4) _ _ _ kk4 (Nat.le_refl _)).1, (fill3 ((((Blk.new W1 _ _).drew.kept hk2).kept hk3).kept hk4) _ _ _ kk4 (Nat.le_refl _)).2⟩
  case rest =>
    obtain ⟨A, rfl, rfl, HA, kx1⟩ := hcut
    have a0 : wc.cell? ⟨A, 0, none⟩ = some (.int .i64 2024) := (HA.out.cell _).trans rfl
    have a1 : wc.cell? ⟨A, 1, none⟩ = some (.int .i64 4) := (HA.out.cell _).trans rfl
    have a2 : wc.cell? ⟨A, 2, none⟩ = some (.int .i64 8) := (HA.out.cell _).trans rfl
    have KD1 := Lib.hid (KD.out _ (k1.trans kx1))
    go_wp2_with fail
    go_at_call 10
    refine KD1.out.mono ?_
    rintro e w9 ⟨rfl, hk9⟩
    go_wp2
    go_ret
    exact ⟨rfl, (k1.trans kx1).trans hk9⟩
end Go.Proofs.YtblaphkaklocfaaGreatDoor
/- Contract: query.Ask at the feast that awake asks for. -/
namespace Go.Proofs.YtblaphkaklocfaaGreatDoor
open Go.ChangeShapes Go.WideShapes Go.ChangeAt Go.RowKit Go.Maps Go.ChangeMaps Go.MapKept
set_option maxHeartbeats 8000000
set_option maxRecDepth 20000

theorem ask_where (w : World) (hT : RTab w) (h10 : Tab10 w) : Calls Tryz.prog 12 #[.agg #[.int .i64 6, .int .i64 0, .int .i64 0, .int .i64 2024, .int .i64 0, .int .i64 0, .int .i64 0, .string sAnn]] w fun e w' => e = .returned (.agg #[.string (dateT 2024 4 8), .int .i64 0, .int .i64 0]) ∧ Kept w w' := by
  have hmf : ∀ (fn : Fn) (first cap : Array Value) (w : World), (Instr.makeFunc fn first cap).run Tryz.prog w = .ok (.func fn first cap) w := fun _ _ _ _ => rfl
  have KF := Lib.hid (fun w => kinds_of w)
  have KW := Lib.hid (fun w' (q : Kept w w') => qwhere_ok w' (hT.kept q) (h10.kept q))
  have e1 : kindsD.atKey (.int .i64 6) (.lit (.int .i64 (-1))) = .lit (.int .i64 92) := by kernel_rfl
  have e2 : Maps.has kindsD (.int .i64 6) = true := by kernel_rfl
  clear hT h10
  go_enter_defers Tryz.func12, Tryz.ntmps12
  go_wp2_with fail
  obtain ⟨W1, hW1⟩ : ∃ x, x = (w.alloc (.cells #[.int .i64 6, .int .i64 0, .int .i64 0, .int .i64 2024, .int .i64 0, .int .i64 0, .int .i64 0, .string sAnn] 33)).alloc (.cells #[.string ⟨#[]⟩, .int .i64 0, .int .i64 0] 25) := ⟨_, rfl⟩
  rw [← hW1]
  have k1 : Kept w W1 := by rw [hW1]; exact ((Kept.refl w).alloc _).alloc _
  have bQ : Blk W1 w.heap.size #[.int .i64 6, .int .i64 0, .int .i64 0, .int .i64 2024, .int .i64 0, .int .i64 0, .int .i64 0, .string sAnn] 33 := by rw [hW1]; exact (Blk.new w _ _).alloc _
  have bO : Hid (Blk W1 (w.heap.size + 1) #[.string ⟨#[]⟩, .int .i64 0, .int .i64 0] 25) := (show Blk _ _ _ _ from by
    rw [hW1]
    have := Blk.new (w.alloc (.cells #[.int .i64 6, .int .i64 0, .int .i64 0, .int .i64 2024, .int .i64 0, .int .i64 0, .int .i64 0, .string sAnn] 33)) #[.string ⟨#[]⟩, .int .i64 0, .int .i64 0] 25
    rw [World.size_alloc] at this
    exact this)
  have c0 : W1.cell? ⟨w.heap.size, 0, none⟩ = some (.int .i64 6) := (bQ.cell _).trans rfl
  have lQ := bQ.lt
  have HQ := Lib.hid bQ
  clear hW1 bQ
  have HA : Hid (sAnn = sAnn) := Lib.hid rfl
  generalize hann : sAnn = ann at *
  go_region_held3 (fun w' => Kept W1 w' ∧ (∀ b o, b < W1.heap.size → w'.cell? ⟨b, o, none⟩ = W1.cell? ⟨b, o, none⟩)) (exact held_of (by (repeat (first | with_reducible assumption | with_reducible exact Kept.refl _ | with_reducible apply Kept.drew | with_reducible apply Kept.alloc | (with_reducible refine Kept.setCell ?_ (by first | exact Nat.le_refl _ | (dsimp only; omega)) _))))) (first
    | (go_at_call 42; (with_reducible refine (KF.out _).mono ?_); rintro e w2 ⟨rfl, hown, hk2⟩; have kk2 : Kept W1 w2 := Kept.trans (by (repeat (first | with_reducible assumption | with_reducible exact Kept.refl _ | with_reducible apply Kept.drew | with_reducible apply Kept.alloc | (with_reducible refine Kept.setCell ?_ (by first | exact Nat.le_refl _ | (dsimp only; omega)) _)))) hk2; obtain ⟨v, ps, hrun, hv⟩ := hown.look_ok (t := 87) law_i under_k (zero_k _) (zd := .lit (.int .i64 (-1))) (zp := []) rfl (keyOf_int_mk Tryz.underlying3 (a := 6) (by decide)); rw [e1] at hv; obtain rfl := fnElem_inv hv; rw [e2] at hrun; (try simp only [World.size_drew, World.size_alloc] at hrun)))
  have bQ2 := HQ.out.kept kk2
  have q0 : w2.cell? ⟨w.heap.size, 0, none⟩ = some (.int .i64 6) := (bQ2.cell _).trans rfl
  have q1 : w2.cell? ⟨w.heap.size, 1, none⟩ = some (.int .i64 0) := (bQ2.cell _).trans rfl
  have q2 : w2.cell? ⟨w.heap.size, 2, none⟩ = some (.int .i64 0) := (bQ2.cell _).trans rfl
  have q3 : w2.cell? ⟨w.heap.size, 3, none⟩ = some (.int .i64 2024) := (bQ2.cell _).trans rfl
  have q4 : w2.cell? ⟨w.heap.size, 4, none⟩ = some (.int .i64 0) := (bQ2.cell _).trans rfl
  have q5 : w2.cell? ⟨w.heap.size, 5, none⟩ = some (.int .i64 0) := (bQ2.cell _).trans rfl
  have q6 : w2.cell? ⟨w.heap.size, 6, none⟩ = some (.int .i64 0) := (bQ2.cell _).trans rfl
  have q7 : w2.cell? ⟨w.heap.size, 7, none⟩ = some (.string ann) := (bQ2.cell _).trans rfl
  have lq := bQ2.lt
  have bO2 := Lib.hid (bO.out.kept kk2)
  have K2 := Lib.hid (k1.trans kk2)
  clear hown hk2 hrun hv bQ2 c0 lQ KF
  go_wp2_with fail
  go_at_call 92
  refine (KW.out _ K2.out).mono ?_
  rintro e w3 ⟨rfl, hk3⟩
  have bO3 := bO2.out.kept hk3
  have K3 := Lib.hid (K2.out.trans hk3)
  have r0 : w3.cell? ⟨w.heap.size + 1, 0, none⟩ = some (.string ⟨#[]⟩) := (bO3.cell _).trans rfl
  have r1 : w3.cell? ⟨w.heap.size + 1, 1, none⟩ = some (.int .i64 0) := (bO3.cell _).trans rfl
  have r2 : w3.cell? ⟨w.heap.size + 1, 2, none⟩ = some (.int .i64 0) := (bO3.cell _).trans rfl
  have g0 := bO3.free 0
  have g1 := bO3.free 1
  have g2 := bO3.free 2
  have lO := bO3.lt
  have HO3 := Lib.hid bO3
  clear hk3 bO3 KW bO2 bO q0 q1 q2 q3 q4 q5 q6 q7
  generalize hdt : dateT 2024 4 8 = dt at *
  go_wp2
  have B0 : Blk (w3.setCell ⟨w.heap.size + 1, 0, none⟩ (.string dt)) (w.heap.size + 1) #[.string dt, .int .i64 0, .int .i64 0] 25 := blk_set HO3.out _ rfl
  have B1 : Blk ((w3.setCell ⟨w.heap.size + 1, 0, none⟩ (.string dt)).setCell ⟨w.heap.size + 1, 1, none⟩ (.int .i64 0)) (w.heap.size + 1) #[.string dt, .int .i64 0, .int .i64 0] 25 := blk_set B0 _ rfl
  have B2 : Blk (((w3.setCell ⟨w.heap.size + 1, 0, none⟩ (.string dt)).setCell ⟨w.heap.size + 1, 1, none⟩ (.int .i64 0)).setCell ⟨w.heap.size + 1, 2, none⟩ (.int .i64 0)) (w.heap.size + 1) #[.string dt, .int .i64 0, .int .i64 0] 25 := blk_set B1 _ rfl
  refine leaves_cons (f := 41) (args := #[.pointer (some ⟨w.heap.size + 1, 0, none⟩)]) (by simp) (by simp [go_sem]) ?_
  refine (ask1_idle _ _).mono ?_
  rintro e u' w'' ⟨rfl, rfl, rfl⟩
  have z0 := B2.cell 0
  have z1 := B2.cell 1
  have z2 := B2.cell 2
  have K4 : Kept w (((w3.setCell ⟨w.heap.size + 1, 0, none⟩ (.string dt)).setCell ⟨w.heap.size + 1, 1, none⟩ (.int .i64 0)).setCell ⟨w.heap.size + 1, 2, none⟩ (.int .i64 0)) := Kept.setCell (Kept.setCell (Kept.setCell K3.out (by simp) _) (by simp) _) (by simp) _
  simp [Leaves, settle, results, Tryz.results12, go_sem, z0, z1, z2, K4]
  exact hdt.symm
end Go.Proofs.YtblaphkaklocfaaGreatDoor

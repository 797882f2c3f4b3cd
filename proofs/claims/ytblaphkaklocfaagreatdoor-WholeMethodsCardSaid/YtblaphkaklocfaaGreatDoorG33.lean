/- Contracts and plain lemmas: Qm0, Qf0, Qf1. -/
import Derived.Test.YtblaphkaklocfaaGreatDoorG01
import Derived.Test.YtblaphkaklocfaaGreatDoorG06
import Derived.Test.YtblaphkaklocfaaGreatDoorG14
import Derived.Defers
import Derived.Recover
import Derived.WalkSmall
import Derived.Deep.RegionHeld3
import Derived.Outline
set_option linter.unusedSimpArgs false
set_option linter.unusedVariables false
set_option linter.unusedSectionVars false
/- Contracts: query's Ask: its deferred closure where nothing fails; its map of functions. -/
namespace Go.Proofs.YtblaphkaklocfaaGreatDoor
open Go.ChangeShapes Go.WideShapes Go.ChangeAt Go.RowKit Go.Maps
set_option maxHeartbeats 8000000
set_option maxRecDepth 20000

theorem ask1_idle (a : Value) (w : World) :
    CallsD Tryz.prog 41 #[a] .returning w fun e u' w' => e = .returned (.tuple #[]) ∧ u' = .returning ∧ w' = w := by
  refine callsD_of_wpS Tryz.func41 rfl fun c₀ cs hu => ?_
  apply wpS_seq
  apply wpS_region
  simp [wpOpsS, go_sem, recoverD, hu, Tryz.ntmps41, Exit.thenS]
  apply wpS_seq
  apply wpS_region
  simp [wpOpsS, go_sem, Exit.thenS]
  refine wpS_cond (t := false) (by simp [Act.eval, Array.replicate]) ?_
  simp only [Bool.false_eq_true, if_false]
  refine wpS_of_wp (wp_skip ?_)
  cases c₀
  simp_all [bodyPostS, results, Tryz.results41]
def kindsD : DataW Unit := (((((((DataW.map [] : DataW Unit).put (.int .i64 1) (.lit (.int .i64 87))).put (.int .i64 2) (.lit (.int .i64 88))).put (.int .i64 3) (.lit (.int .i64 89))).put (.int .i64 4) (.lit (.int .i64 90))).put (.int .i64 5) (.lit (.int .i64 91))).put (.int .i64 6) (.lit (.int .i64 92)))
theorem under_k : Tryz.prog.underlying 87 = some (.map 3 85) := by kernel_rfl
theorem zero_k (w : World) : (zeroValue 85).run Tryz.prog w = .ok .nilFunc w := by kernel_rfl
theorem kinds_of (w : World) :
    Calls Tryz.prog 42 #[] w fun e w' => e = .returned (.map (some w.heap.size)) ∧ w'.ownsMap Tryz.prog 3 fnElem w.heap.size 6 kindsD ∧ Kept w w' := by
  have hmm := @run_makeMap Tryz.prog
  have hown0 := World.ownsMap_made w Tryz.prog 3 fnElem
  have hb0 : Kept w (w.alloc (.map #[] 0)) := (Kept.refl w).alloc _
  go_enter Tryz.func42, Tryz.ntmps42
  go_wp2_with fail
  obtain ⟨wa1, hra1, hown1, hga1⟩ := hown0.update (t := 87) (e := 85) law_i under_k (by unfold maxLen; omega) (keyOf_int_mk Tryz.underlying3 (a := 1) (by decide)) (val := .func (.func 87) #[] #[]) (d := .lit (.int .i64 87)) (ps := []) rfl
  have hb1 : Kept w wa1 := Below.grown hb0 hga1 (by simp) (fun j hj => by cases hj; exact Nat.le_refl _)
  rw [hra1]
  go_wp2_with fail
  obtain ⟨wa2, hra2, hown2, hga2⟩ := hown1.update (t := 87) (e := 85) law_i under_k (by unfold maxLen; omega) (keyOf_int_mk Tryz.underlying3 (a := 2) (by decide)) (val := .func (.func 88) #[] #[]) (d := .lit (.int .i64 88)) (ps := []) rfl
  have hb2 : Kept w wa2 := Below.grown hb1 hga2 hb1.size (fun j hj => by cases hj; exact Nat.le_refl _)
  rw [hra2]
  go_wp2_with fail
  obtain ⟨wa3, hra3, hown3, hga3⟩ := hown2.update (t := 87) (e := 85) law_i under_k (by unfold maxLen; omega) (keyOf_int_mk Tryz.underlying3 (a := 3) (by decide)) (val := .func (.func 89) #[] #[]) (d := .lit (.int .i64 89)) (ps := []) rfl
  have hb3 : Kept w wa3 := Below.grown hb2 hga3 hb2.size (fun j hj => by cases hj; exact Nat.le_refl _)
  rw [hra3]
  go_wp2_with fail
  obtain ⟨wa4, hra4, hown4, hga4⟩ := hown3.update (t := 87) (e := 85) law_i under_k (by unfold maxLen; omega) (keyOf_int_mk Tryz.underlying3 (a := 4) (by decide)) (val := .func (.func 90) #[] #[]) (d := .lit (.int .i64 90)) (ps := []) rfl
  have hb4 : Kept w wa4 := Below.grown hb3 hga4 hb3.size (fun j hj => by cases hj; exact Nat.le_refl _)
  rw [hra4]
  go_wp2_with fail
  obtain ⟨wa5, hra5, hown5, hga5⟩ := hown4.update (t := 87) (e := 85) law_i under_k (by unfold maxLen; omega) (keyOf_int_mk Tryz.underlying3 (a := 5) (by decide)) (val := .func (.func 91) #[] #[]) (d := .lit (.int .i64 91)) (ps := []) rfl
  have hb5 : Kept w wa5 := Below.grown hb4 hga5 hb4.size (fun j hj => by cases hj; exact Nat.le_refl _)
  rw [hra5]
  go_wp2_with fail
  obtain ⟨wa6, hra6, hown6, hga6⟩ := hown5.update (t := 87) (e := 85) law_i under_k (by unfold maxLen; omega) (keyOf_int_mk Tryz.underlying3 (a := 6) (by decide)) (val := .func (.func 92) #[] #[]) (d := .lit (.int .i64 92)) (ps := []) rfl
  have hb6 : Kept w wa6 := Below.grown hb5 hga6 hb5.size (fun j hj => by cases hj; exact Nat.le_refl _)
  rw [hra6]
  go_wp2_with fail
  go_ret
  exact ⟨rfl, hown6, hb6⟩
def methD : DataW Unit := ((((DataW.map [] : DataW Unit).put (.int .i64 1) (.lit (.int .i64 13))).put (.int .i64 2) (.lit (.int .i64 186))).put (.int .i64 3) (.lit (.int .i64 187)))
theorem under_me : Tryz.prog.underlying 198 = some (.map 3 36) := by kernel_rfl
theorem zero_me (w : World) : (zeroValue 36).run Tryz.prog w = .ok .nilFunc w := by kernel_rfl
theorem methods_of (w : World) :
    Calls Tryz.prog 134 #[] w fun e w' => e = .returned (.map (some w.heap.size)) ∧ w'.ownsMap Tryz.prog 3 fnElem w.heap.size 3 methD ∧ Kept w w' := by
  have hmm := @run_makeMap Tryz.prog
  have hown0 := World.ownsMap_made w Tryz.prog 3 fnElem
  have hb0 : Kept w (w.alloc (.map #[] 0)) := (Kept.refl w).alloc _
  go_enter Tryz.func134, Tryz.ntmps134
  go_wp2_with fail
  obtain ⟨wa1, hra1, hown1, hga1⟩ := hown0.update (t := 198) (e := 36) law_i under_me (by unfold maxLen; omega) (keyOf_int_mk Tryz.underlying3 (a := 1) (by decide)) (val := .func (.func 13) #[] #[]) (d := .lit (.int .i64 13)) (ps := []) rfl
  have hb1 : Kept w wa1 := Below.grown hb0 hga1 (by simp) (fun j hj => by cases hj; exact Nat.le_refl _)
  rw [hra1]
  go_wp2_with fail
  obtain ⟨wa2, hra2, hown2, hga2⟩ := hown1.update (t := 198) (e := 36) law_i under_me (by unfold maxLen; omega) (keyOf_int_mk Tryz.underlying3 (a := 2) (by decide)) (val := .func (.func 186) #[] #[]) (d := .lit (.int .i64 186)) (ps := []) rfl
  have hb2 : Kept w wa2 := Below.grown hb1 hga2 hb1.size (fun j hj => by cases hj; exact Nat.le_refl _)
  rw [hra2]
  go_wp2_with fail
  obtain ⟨wa3, hra3, hown3, hga3⟩ := hown2.update (t := 198) (e := 36) law_i under_me (by unfold maxLen; omega) (keyOf_int_mk Tryz.underlying3 (a := 3) (by decide)) (val := .func (.func 187) #[] #[]) (d := .lit (.int .i64 187)) (ps := []) rfl
  have hb3 : Kept w wa3 := Below.grown hb2 hga3 hb2.size (fun j hj => by cases hj; exact Nat.le_refl _)
  rw [hra3]
  go_wp2_with fail
  go_ret
  exact ⟨rfl, hown3, hb3⟩
end Go.Proofs.YtblaphkaklocfaaGreatDoor
/- Contracts: query's fail at an error; Ask's deferred closure where something failed. -/
namespace Go.Proofs.YtblaphkaklocfaaGreatDoor
open Go.ChangeShapes Go.WideShapes Go.ChangeAt Go.RowKit
set_option maxHeartbeats 1000000
set_option maxRecDepth 20000

theorem blk_put {w : World} {b o : Nat} {t : TypeId} {cs cs' : Array Value} (h : Blk w b cs t) (u : Value) (e : cs.setIfInBounds o u = cs') : Blk (w.setCell ⟨b, o, none⟩ u) b cs' t := e ▸ h.set o u
theorem fail_err (n o : Int) (w : World) (h : n ≠ 0) : Calls Tryz.prog 43 #[.int .i64 n, .int .i64 o] w fun e w' => e = .panicked [{ v := .iface 83 (.agg #[.int .i64 n, .int .i64 o]), recovered := false }] ∧ Kept w w' := by
  have h1 : (n != 0) = true := by simpa using h
  go_enter Tryz.func43, Tryz.ntmps43
  go_wp2
  exact ⟨rfl, rfl, (by repeat (first | with_reducible exact Kept.refl _ | with_reducible assumption | with_reducible refine Kept.drew ?_ | with_reducible refine Kept.drewN ?_ _ | with_reducible refine Kept.alloc ?_ _ | (with_reducible refine Kept.setCell ?_ (by first | exact Nat.le_refl _ | omega | (simp; done) | (simp; omega)) _) | (with_reducible refine Kept.trans ?_ (by with_reducible assumption))))⟩
theorem ask1_caught (b : Nat) (n o : Int) (x0 x1 x2 : Value) (w0 w : World) (h : Blk w b #[x0, x1, x2] 25) (hk : Kept w0 w) (hb : w0.heap.size ≤ b) :
    CallsD Tryz.prog 41 #[.pointer (some ⟨b, 0, none⟩)] (.panicking [{ v := .iface 83 (.agg #[.int .i64 n, .int .i64 o]), recovered := false }]) w fun e u' w' => e = .returned (.tuple #[]) ∧ u' = .panicking [{ v := .iface 83 (.agg #[.int .i64 n, .int .i64 o]), recovered := true }] ∧ Blk w' b #[.string ⟨#[]⟩, .int .i64 o, .int .i64 n] 25 ∧ Kept w0 w' := by
  have hta : ∀ w : World, (Instr.typeAssert (.iface 83 (.agg #[.int .i64 n, .int .i64 o])) 20 83 true).run Tryz.prog w = .ok (.tuple #[.agg #[.int .i64 n, .int .i64 o], .bool true]) w := fun w => by kernel_rfl
  refine callsD_of_wpS Tryz.func41 rfl fun c₀ cs hu => ?_
  apply wpS_seq
  apply wpS_region
  simp [wpOpsS, go_sem, recoverD, hu, Tryz.ntmps41, Exit.thenS]
  apply wpS_seq
  apply wpS_region
  simp [wpOpsS, go_sem, Exit.thenS]
  refine wpS_cond (t := true) (by simp [Act.eval, Array.replicate]) ?_
  simp only [if_true]
  apply wpS_seq
  apply wpS_region
  simp [wpOpsS, go_sem, Exit.thenS, hta]
  apply wpS_seq
  apply wpS_seq
  apply wpS_region
  simp [wpOpsS, go_sem, Exit.thenS]
  refine wpS_cond (t := false) (by simp [Act.eval, Array.replicate]) ?_
  simp only [Bool.false_eq_true, if_false]
  refine wpS_of_wp (wp_skip ?_)
  simp only [Exit.thenS]
  have hA := h.alloc (.cells #[.int .i64 n, .int .i64 o] 83)
  have a0 : (w.alloc (.cells #[.int .i64 n, .int .i64 o] 83)).cell? ⟨b, 0, none⟩ = some x0 := (hA.cell _).trans rfl
  have a1 : (w.alloc (.cells #[.int .i64 n, .int .i64 o] 83)).cell? ⟨b, 1, none⟩ = some x1 := (hA.cell _).trans rfl
  have a2 : (w.alloc (.cells #[.int .i64 n, .int .i64 o] 83)).cell? ⟨b, 2, none⟩ = some x2 := (hA.cell _).trans rfl
  have f0 := hA.free 0
  have f1 := hA.free 1
  have f2 := hA.free 2
  apply wpS_region
  generalize hQ : bodyPostS Tryz.prog _ _ _ _ = Q
  simp (config := {maxSteps := 1000000}) [wpOpsS, go_sem, a0, a1, a2, f0, f1, f2]
  rw [← hQ]
  have B0 := blk_put hA (o := 0) (.string ⟨#[]⟩) (cs' := #[.string ⟨#[]⟩, x1, x2]) rfl
  have B1 := blk_put B0 (o := 1) (.int .i64 o) (cs' := #[.string ⟨#[]⟩, .int .i64 o, x2]) rfl
  have B2 := blk_put B1 (o := 2) (.int .i64 n) (cs' := #[.string ⟨#[]⟩, .int .i64 o, .int .i64 n]) rfl
  have K := Kept.setCell (Kept.setCell (Kept.setCell (hk.alloc (.cells #[.int .i64 n, .int .i64 o] 83)) (p := ⟨b, 0, none⟩) hb (.string ⟨#[]⟩)) (p := ⟨b, 1, none⟩) hb (.int .i64 o)) (p := ⟨b, 2, none⟩) hb (.int .i64 n)
  simp [bodyPostS, results, Tryz.results41]
  exact ⟨B2, K⟩
end Go.Proofs.YtblaphkaklocfaaGreatDoor
/- Contract: query.Ask over whatever function answers. -/
namespace Go.Proofs.YtblaphkaklocfaaGreatDoor
open Go.ChangeShapes Go.WideShapes Go.ChangeAt Go.RowKit Go.Maps Go.ChangeMaps Go.MapKept
set_option maxHeartbeats 8000000
set_option maxRecDepth 20000

theorem ask_ok (K c m y a b d : Int) (t s : ByteArray) (F : Nat) (w : World) (hK : (Lit.int .i64 K).wf = true)
    (e1 : kindsD.atKey (.int .i64 K) (.lit (.int .i64 (-1))) = .lit (.int .i64 F)) (e2 : Maps.has kindsD (.int .i64 K) = true)
    (hN : Hid (∀ args w, (callFunc F args).run Tryz.prog w = .ok (.enter F args) w))
    (KW : Hid (∀ w', Kept w w' → Calls Tryz.prog F #[.agg #[.int .i64 K, .int .i64 c, .int .i64 m, .int .i64 y, .int .i64 a, .int .i64 b, .int .i64 d, .string t]] w' fun e w2 => e = .returned (.string s) ∧ Kept w' w2)) :
    Calls Tryz.prog 12 #[.agg #[.int .i64 K, .int .i64 c, .int .i64 m, .int .i64 y, .int .i64 a, .int .i64 b, .int .i64 d, .string t]] w fun e w' => e = .returned (.agg #[.string s, .int .i64 0, .int .i64 0]) ∧ Kept w w' := by
  have hmf : ∀ (fn : Fn) (first cap : Array Value) (w : World), (Instr.makeFunc fn first cap).run Tryz.prog w = .ok (.func fn first cap) w := fun _ _ _ _ => rfl
  have KF := Lib.hid (fun w => kinds_of w)
  have HE1 := Lib.hid e1
  have HE2 := Lib.hid e2
  have HK := Lib.hid hK
  clear e1 e2 hK
  go_enter_defers Tryz.func12, Tryz.ntmps12
  go_wp2_with fail
  obtain ⟨W1, hW1⟩ : ∃ x, x = (w.alloc (.cells #[.int .i64 K, .int .i64 c, .int .i64 m, .int .i64 y, .int .i64 a, .int .i64 b, .int .i64 d, .string t] 33)).alloc (.cells #[.string ⟨#[]⟩, .int .i64 0, .int .i64 0] 25) := ⟨_, rfl⟩
  rw [← hW1]
  have k1 : Kept w W1 := by rw [hW1]; exact ((Kept.refl w).alloc _).alloc _
  have bQ : Blk W1 w.heap.size #[.int .i64 K, .int .i64 c, .int .i64 m, .int .i64 y, .int .i64 a, .int .i64 b, .int .i64 d, .string t] 33 := by rw [hW1]; exact (Blk.new w _ _).alloc _
  have bO : Hid (Blk W1 (w.heap.size + 1) #[.string ⟨#[]⟩, .int .i64 0, .int .i64 0] 25) := (show Blk _ _ _ _ from by
    rw [hW1]
    have := Blk.new (w.alloc (.cells #[.int .i64 K, .int .i64 c, .int .i64 m, .int .i64 y, .int .i64 a, .int .i64 b, .int .i64 d, .string t] 33)) #[.string ⟨#[]⟩, .int .i64 0, .int .i64 0] 25
    rw [World.size_alloc] at this
    exact this)
  have c0 : W1.cell? ⟨w.heap.size, 0, none⟩ = some (.int .i64 K) := (bQ.cell _).trans rfl
  have lQ := bQ.lt
  have HQ := Lib.hid bQ
  clear hW1 bQ
  go_region_held3 (fun w' => Kept W1 w' ∧ (∀ b o, b < W1.heap.size → w'.cell? ⟨b, o, none⟩ = W1.cell? ⟨b, o, none⟩)) (exact held_of (by (repeat (first | with_reducible assumption | with_reducible exact Kept.refl _ | with_reducible apply Kept.drew | with_reducible apply Kept.alloc | (with_reducible refine Kept.setCell ?_ (by first | exact Nat.le_refl _ | (dsimp only; omega)) _))))) (first
    | (go_at_call 42; (with_reducible refine (KF.out _).mono ?_); rintro e w2 ⟨rfl, hown, hk2⟩; have kk2 : Kept W1 w2 := Kept.trans (by (repeat (first | with_reducible assumption | with_reducible exact Kept.refl _ | with_reducible apply Kept.drew | with_reducible apply Kept.alloc | (with_reducible refine Kept.setCell ?_ (by first | exact Nat.le_refl _ | (dsimp only; omega)) _)))) hk2; obtain ⟨v, ps, hrun, hv⟩ := hown.look_ok (t := 87) law_i under_k (zero_k _) (zd := .lit (.int .i64 (-1))) (zp := []) rfl (keyOf_int_mk Tryz.underlying3 (a := K) HK.out); rw [HE1.out] at hv; obtain rfl := fnElem_inv hv; rw [HE2.out] at hrun; (try simp only [World.size_drew, World.size_alloc] at hrun)))
  have bQ2 := HQ.out.kept kk2
  have q0 : w2.cell? ⟨w.heap.size, 0, none⟩ = some (.int .i64 K) := (bQ2.cell _).trans rfl
  have q1 : w2.cell? ⟨w.heap.size, 1, none⟩ = some (.int .i64 c) := (bQ2.cell _).trans rfl
  have q2 : w2.cell? ⟨w.heap.size, 2, none⟩ = some (.int .i64 m) := (bQ2.cell _).trans rfl
  have q3 : w2.cell? ⟨w.heap.size, 3, none⟩ = some (.int .i64 y) := (bQ2.cell _).trans rfl
  have q4 : w2.cell? ⟨w.heap.size, 4, none⟩ = some (.int .i64 a) := (bQ2.cell _).trans rfl
  have q5 : w2.cell? ⟨w.heap.size, 5, none⟩ = some (.int .i64 b) := (bQ2.cell _).trans rfl
  have q6 : w2.cell? ⟨w.heap.size, 6, none⟩ = some (.int .i64 d) := (bQ2.cell _).trans rfl
  have q7 : w2.cell? ⟨w.heap.size, 7, none⟩ = some (.string t) := (bQ2.cell _).trans rfl
  have lq := bQ2.lt
  have bO2 := Lib.hid (bO.out.kept kk2)
  have K2 := Lib.hid (k1.trans kk2)
  clear hown hk2 hrun hv bQ2 c0 lQ KF
  go_wp2_with fail
  rw [hN.out, Oper.upon_enter]
  refine (KW.out _ K2.out).mono ?_
  rintro e w3 ⟨rfl, hk3⟩
  have bO3 := bO2.out.kept hk3
  have K3 := Lib.hid (K2.out.trans hk3)
  have r0 : w3.cell? ⟨w.heap.size + 1, 0, none⟩ = some (.string ⟨#[]⟩) := (bO3.cell _).trans rfl
  have r1 : w3.cell? ⟨w.heap.size + 1, 1, none⟩ = some (.int .i64 0) := (bO3.cell _).trans rfl
  have r2 : w3.cell? ⟨w.heap.size + 1, 2, none⟩ = some (.int .i64 0) := (bO3.cell _).trans rfl
  have g0 := bO3.free 0
  have g1 := bO3.free 1
  have g2 := bO3.free 2
  have lO := bO3.lt
  have HO3 := Lib.hid bO3
  clear hk3 bO3 KW bO2 bO q0 q1 q2 q3 q4 q5 q6 q7
  go_wp2
  have B0 : Blk (w3.setCell ⟨w.heap.size + 1, 0, none⟩ (.string s)) (w.heap.size + 1) #[.string s, .int .i64 0, .int .i64 0] 25 := blk_put HO3.out _ rfl
  have B1 : Blk ((w3.setCell ⟨w.heap.size + 1, 0, none⟩ (.string s)).setCell ⟨w.heap.size + 1, 1, none⟩ (.int .i64 0)) (w.heap.size + 1) #[.string s, .int .i64 0, .int .i64 0] 25 := blk_put B0 _ rfl
  have B2 : Blk (((w3.setCell ⟨w.heap.size + 1, 0, none⟩ (.string s)).setCell ⟨w.heap.size + 1, 1, none⟩ (.int .i64 0)).setCell ⟨w.heap.size + 1, 2, none⟩ (.int .i64 0)) (w.heap.size + 1) #[.string s, .int .i64 0, .int .i64 0] 25 := blk_put B1 _ rfl
  refine leaves_cons (f := 41) (args := #[.pointer (some ⟨w.heap.size + 1, 0, none⟩)]) (by simp) (by simp [go_sem]) ?_
  refine (ask1_idle _ _).mono ?_
  rintro e u' w'' ⟨rfl, rfl, rfl⟩
  have z0 := B2.cell 0
  have z1 := B2.cell 1
  have z2 := B2.cell 2
  have K4 : Kept w (((w3.setCell ⟨w.heap.size + 1, 0, none⟩ (.string s)).setCell ⟨w.heap.size + 1, 1, none⟩ (.int .i64 0)).setCell ⟨w.heap.size + 1, 2, none⟩ (.int .i64 0)) := Kept.setCell (Kept.setCell (Kept.setCell K3.out (by simp) _) (by simp) _) (by simp) _
  simp [Leaves, settle, results, Tryz.results12, go_sem, z0, z1, z2, K4]
theorem ask_err (K c m y a b d n o : Int) (t : ByteArray) (F : Nat) (w : World) (hK : (Lit.int .i64 K).wf = true)
    (e1 : kindsD.atKey (.int .i64 K) (.lit (.int .i64 (-1))) = .lit (.int .i64 F)) (e2 : Maps.has kindsD (.int .i64 K) = true)
    (hN : Hid (∀ args w, (callFunc F args).run Tryz.prog w = .ok (.enter F args) w))
    (KW : Hid (∀ w', Kept w w' → Calls Tryz.prog F #[.agg #[.int .i64 K, .int .i64 c, .int .i64 m, .int .i64 y, .int .i64 a, .int .i64 b, .int .i64 d, .string t]] w' fun e w2 => e = .panicked [{ v := .iface 83 (.agg #[.int .i64 n, .int .i64 o]), recovered := false }] ∧ Kept w' w2)) :
    Calls Tryz.prog 12 #[.agg #[.int .i64 K, .int .i64 c, .int .i64 m, .int .i64 y, .int .i64 a, .int .i64 b, .int .i64 d, .string t]] w fun e w' => e = .returned (.agg #[.string ⟨#[]⟩, .int .i64 o, .int .i64 n]) ∧ Kept w w' := by
  have hmf : ∀ (fn : Fn) (first cap : Array Value) (w : World), (Instr.makeFunc fn first cap).run Tryz.prog w = .ok (.func fn first cap) w := fun _ _ _ _ => rfl
  have KF := Lib.hid (fun w => kinds_of w)
  have HE1 := Lib.hid e1
  have HE2 := Lib.hid e2
  have HK := Lib.hid hK
  clear e1 e2 hK
  go_enter_defers Tryz.func12, Tryz.ntmps12
  go_wp2_with fail
  obtain ⟨W1, hW1⟩ : ∃ x, x = (w.alloc (.cells #[.int .i64 K, .int .i64 c, .int .i64 m, .int .i64 y, .int .i64 a, .int .i64 b, .int .i64 d, .string t] 33)).alloc (.cells #[.string ⟨#[]⟩, .int .i64 0, .int .i64 0] 25) := ⟨_, rfl⟩
  rw [← hW1]
  have k1 : Kept w W1 := by rw [hW1]; exact ((Kept.refl w).alloc _).alloc _
  have bQ : Blk W1 w.heap.size #[.int .i64 K, .int .i64 c, .int .i64 m, .int .i64 y, .int .i64 a, .int .i64 b, .int .i64 d, .string t] 33 := by rw [hW1]; exact (Blk.new w _ _).alloc _
  have bO : Hid (Blk W1 (w.heap.size + 1) #[.string ⟨#[]⟩, .int .i64 0, .int .i64 0] 25) := (show Blk _ _ _ _ from by
    rw [hW1]
    have := Blk.new (w.alloc (.cells #[.int .i64 K, .int .i64 c, .int .i64 m, .int .i64 y, .int .i64 a, .int .i64 b, .int .i64 d, .string t] 33)) #[.string ⟨#[]⟩, .int .i64 0, .int .i64 0] 25
    rw [World.size_alloc] at this
    exact this)
  have c0 : W1.cell? ⟨w.heap.size, 0, none⟩ = some (.int .i64 K) := (bQ.cell _).trans rfl
  have lQ := bQ.lt
  have HQ := Lib.hid bQ
  clear hW1 bQ
  go_region_held3 (fun w' => Kept W1 w' ∧ (∀ b o, b < W1.heap.size → w'.cell? ⟨b, o, none⟩ = W1.cell? ⟨b, o, none⟩)) (exact held_of (by (repeat (first | with_reducible assumption | with_reducible exact Kept.refl _ | with_reducible apply Kept.drew | with_reducible apply Kept.alloc | (with_reducible refine Kept.setCell ?_ (by first | exact Nat.le_refl _ | (dsimp only; omega)) _))))) (first
    | (go_at_call 42; (with_reducible refine (KF.out _).mono ?_); rintro e w2 ⟨rfl, hown, hk2⟩; have kk2 : Kept W1 w2 := Kept.trans (by (repeat (first | with_reducible assumption | with_reducible exact Kept.refl _ | with_reducible apply Kept.drew | with_reducible apply Kept.alloc | (with_reducible refine Kept.setCell ?_ (by first | exact Nat.le_refl _ | (dsimp only; omega)) _)))) hk2; obtain ⟨v, ps, hrun, hv⟩ := hown.look_ok (t := 87) law_i under_k (zero_k _) (zd := .lit (.int .i64 (-1))) (zp := []) rfl (keyOf_int_mk Tryz.underlying3 (a := K) HK.out); rw [HE1.out] at hv; obtain rfl := fnElem_inv hv; rw [HE2.out] at hrun; (try simp only [World.size_drew, World.size_alloc] at hrun)))
  have bQ2 := HQ.out.kept kk2
  have q0 : w2.cell? ⟨w.heap.size, 0, none⟩ = some (.int .i64 K) := (bQ2.cell _).trans rfl
  have q1 : w2.cell? ⟨w.heap.size, 1, none⟩ = some (.int .i64 c) := (bQ2.cell _).trans rfl
  have q2 : w2.cell? ⟨w.heap.size, 2, none⟩ = some (.int .i64 m) := (bQ2.cell _).trans rfl
  have q3 : w2.cell? ⟨w.heap.size, 3, none⟩ = some (.int .i64 y) := (bQ2.cell _).trans rfl
  have q4 : w2.cell? ⟨w.heap.size, 4, none⟩ = some (.int .i64 a) := (bQ2.cell _).trans rfl
  have q5 : w2.cell? ⟨w.heap.size, 5, none⟩ = some (.int .i64 b) := (bQ2.cell _).trans rfl
  have q6 : w2.cell? ⟨w.heap.size, 6, none⟩ = some (.int .i64 d) := (bQ2.cell _).trans rfl
  have q7 : w2.cell? ⟨w.heap.size, 7, none⟩ = some (.string t) := (bQ2.cell _).trans rfl
  have lq := bQ2.lt
  have bO2 := Lib.hid (bO.out.kept kk2)
  have K2 := Lib.hid (k1.trans kk2)
  clear hown hk2 hrun hv bQ2 c0 lQ KF
  go_wp2_with fail
  rw [hN.out, Oper.upon_enter]
  refine (KW.out _ K2.out).mono ?_
  rintro e w3 ⟨rfl, hk3⟩
  have bO3 := bO2.out.kept hk3
  have K3 := Lib.hid (K2.out.trans hk3)
  have HO3 := Lib.hid bO3
  clear hk3 bO3 KW bO2 bO q0 q1 q2 q3 q4 q5 q6 q7
  go_wp2
  refine leaves_cons (f := 41) (args := #[.pointer (some ⟨w.heap.size + 1, 0, none⟩)]) (by simp) (by simp [go_sem]) ?_
  refine (ask1_caught _ n o _ _ _ w _ HO3.out K3.out (by omega)).mono ?_
  rintro e u' w'' ⟨rfl, rfl, hB, K4⟩
  have z0 := hB.cell 0
  have z1 := hB.cell 1
  have z2 := hB.cell 2
  simp [Leaves, settle, results, Tryz.results12, go_sem, z0, z1, z2, K4]
end Go.Proofs.YtblaphkaklocfaaGreatDoor

/- Contracts and plain lemmas: Pol, Pom, Rs0, Rsv, Rs2. -/
import Derived.Test.YtblaphkaklocfaaGreatDoorG18
import Derived.Deep.RegionLaw
import Derived.Deep.AppendLies
import Derived.Maps.OwnSet
import Derived.Deep.RegionWith
set_option linter.unusedSimpArgs false
set_option linter.unusedVariables false
set_option linter.unusedSectionVars false
/- Contracts: the closures that occurrence.policies hands out. -/
namespace Go.Proofs.YtblaphkaklocfaaGreatDoor
open Go.ChangeShapes Go.WideShapes Go.ChangeAt Go.RowKit
set_option maxHeartbeats 8000000
set_option maxRecDepth 20000

theorem pol1_ok (i : Nat) (Bp R base n : Nat) (v : Value) (xs : List Value) (k o p q : Value) (s1 s2 s3 : Value) (w : World) (hp : Blk w Bp #[.pointer (some ⟨R, 0, none⟩)] 215) (hR : Blk w R #[k, o, p, q, s1, s2, s3] 168)
    (hv : v = s1) (hown : w.ownsRow base 3 1 v n xs) (hn : n ≤ 1000) (hbase : base ≤ w.heap.size) (hne : some R ≠ v.ownBlock) (hne2 : some Bp ≠ v.ownBlock) :
    Calls Tryz.prog 209 #[.int .i64 i, .pointer (some ⟨Bp, 0, none⟩)] w fun e w' => e = .returned (.tuple #[]) ∧ ∃ v' w1, w1.ownsRow base 3 1 v' (n + 1) (xs ++ [.int .i64 i]) ∧ w.grownBy w1 v.ownBlock ∧ (v'.ownBlock = v.ownBlock ∨ ∃ g, w.heap.size ≤ g ∧ v'.ownBlock = some g) ∧ w' = w1.setCell ⟨R, 4, none⟩ v' := by
  subst hv
  obtain ⟨i0, hi, hz0, hz1, hz2⟩ := info_parts info_int
  have hb := owns_form hown
  obtain ⟨oo, cc, hsl⟩ := hb
  subst hsl
  have cp : w.cell? ⟨Bp, 0, none⟩ = some (.pointer (some ⟨R, 0, none⟩)) := by rw [hp.cell]; rfl
  have cr : w.cell? ⟨R, 4, none⟩ = some (.slice oo n cc) := by rw [hR.cell]; rfl
  have lp := hp.lt
  have lr := hR.lt
  have HR := Lib.hid hR
  have HP := Lib.hid hp
  have hna : (w.alloc (.cells #[.int .i64 i] 3)).heap[w.heap.size]? = some (.cells #[.int .i64 i] 3 (0, 0)) := Blk.new w _ _
  have HG := Lib.hid (fun (v1 : World) (g : (w.alloc (.cells #[.int .i64 i] 3)).drew.grownBy v1 (Value.slice oo n cc).ownBlock) => ((World.grownBy_alloc w (.cells #[.int .i64 i] 3) _).trans (⟨g.os, g.tape, g.output, g.size, g.block⟩ : (w.alloc (.cells #[.int .i64 i] 3)).grownBy v1 (Value.slice oo n cc).ownBlock)))
  clear hp hR
  go_enter Tryz.func209, Tryz.ntmps209
  go_wp2_with fail
  go_region_law ((refine step_append_lies _ (by rfl) _ _ _ (by rfl) base 3 i0 _ 1 8 Tryz.underlying52 hi hz0 hz1 hz2 rfl (by omega) (.slice oo n cc) n xs (by rfl) ((hown.alloc _).drew) ⟨w.heap.size, 0, none⟩ 1 1 [.int .i64 i] (by rfl) (by rfl) (World.news_of_block (cs := #[.int .i64 i]) (t := 3) (fr := (0, 0)) hna) (by simp [Value.oneCell']) (by omega) (by unfold maxLen; omega) (by omega) (by simp; omega) (w.heap.size + 1) (by simp) ?_; intro gg cap v1 hown1 hgrow hat hlt; have hR1 := (HR.out.alloc (.cells #[.int .i64 i] 3)).drew.grown hgrow hne; have hP1 := (HP.out.alloc (.cells #[.int .i64 i] 3)).drew.grown hgrow hne2; have e1 : v1.cell? ⟨R, 4, none⟩ = some (.slice oo n cc) := (by rw [hR1.cell]; rfl); have e2 := hR1.free 4; have e3 : v1.cell? ⟨Bp, 0, none⟩ = some (.pointer (some ⟨R, 0, none⟩)) := (by rw [hP1.cell]; rfl); have HO := Lib.hid hown1; have HW := Lib.hid (HG.out v1 hgrow); have HA := Lib.hid hat; clear hown1 hgrow hat hR1 hP1))
  all_goals go_wp2
  all_goals go_end0
  all_goals exact ⟨rfl, _, v1, HO.out, HW.out, HA.out.imp (fun h => h.symm) (fun h => ⟨gg, by omega, rfl⟩), rfl⟩
theorem pol2_ok (i : Nat) (Bp R base n : Nat) (v : Value) (xs : List Value) (k o p q : Value) (s1 s2 s3 : Value) (w : World) (hp : Blk w Bp #[.pointer (some ⟨R, 0, none⟩)] 215) (hR : Blk w R #[k, o, p, q, s1, s2, s3] 168)
    (hv : v = s2) (hown : w.ownsRow base 3 1 v n xs) (hn : n ≤ 1000) (hbase : base ≤ w.heap.size) (hne : some R ≠ v.ownBlock) (hne2 : some Bp ≠ v.ownBlock) :
    Calls Tryz.prog 210 #[.int .i64 i, .pointer (some ⟨Bp, 0, none⟩)] w fun e w' => e = .returned (.tuple #[]) ∧ ∃ v' w1, w1.ownsRow base 3 1 v' (n + 1) (xs ++ [.int .i64 i]) ∧ w.grownBy w1 v.ownBlock ∧ (v'.ownBlock = v.ownBlock ∨ ∃ g, w.heap.size ≤ g ∧ v'.ownBlock = some g) ∧ w' = w1.setCell ⟨R, 5, none⟩ v' := by
  subst hv
  obtain ⟨i0, hi, hz0, hz1, hz2⟩ := info_parts info_int
  have hb := owns_form hown
  obtain ⟨oo, cc, hsl⟩ := hb
  subst hsl
  have cp : w.cell? ⟨Bp, 0, none⟩ = some (.pointer (some ⟨R, 0, none⟩)) := by rw [hp.cell]; rfl
  have cr : w.cell? ⟨R, 5, none⟩ = some (.slice oo n cc) := by rw [hR.cell]; rfl
  have lp := hp.lt
  have lr := hR.lt
  have HR := Lib.hid hR
  have HP := Lib.hid hp
  have hna : (w.alloc (.cells #[.int .i64 i] 3)).heap[w.heap.size]? = some (.cells #[.int .i64 i] 3 (0, 0)) := Blk.new w _ _
  have HG := Lib.hid (fun (v1 : World) (g : (w.alloc (.cells #[.int .i64 i] 3)).drew.grownBy v1 (Value.slice oo n cc).ownBlock) => ((World.grownBy_alloc w (.cells #[.int .i64 i] 3) _).trans (⟨g.os, g.tape, g.output, g.size, g.block⟩ : (w.alloc (.cells #[.int .i64 i] 3)).grownBy v1 (Value.slice oo n cc).ownBlock)))
  clear hp hR
  go_enter Tryz.func210, Tryz.ntmps210
  go_wp2_with fail
  go_region_law ((refine step_append_lies _ (by rfl) _ _ _ (by rfl) base 3 i0 _ 1 8 Tryz.underlying52 hi hz0 hz1 hz2 rfl (by omega) (.slice oo n cc) n xs (by rfl) ((hown.alloc _).drew) ⟨w.heap.size, 0, none⟩ 1 1 [.int .i64 i] (by rfl) (by rfl) (World.news_of_block (cs := #[.int .i64 i]) (t := 3) (fr := (0, 0)) hna) (by simp [Value.oneCell']) (by omega) (by unfold maxLen; omega) (by omega) (by simp; omega) (w.heap.size + 1) (by simp) ?_; intro gg cap v1 hown1 hgrow hat hlt; have hR1 := (HR.out.alloc (.cells #[.int .i64 i] 3)).drew.grown hgrow hne; have hP1 := (HP.out.alloc (.cells #[.int .i64 i] 3)).drew.grown hgrow hne2; have e1 : v1.cell? ⟨R, 5, none⟩ = some (.slice oo n cc) := (by rw [hR1.cell]; rfl); have e2 := hR1.free 5; have e3 : v1.cell? ⟨Bp, 0, none⟩ = some (.pointer (some ⟨R, 0, none⟩)) := (by rw [hP1.cell]; rfl); have HO := Lib.hid hown1; have HW := Lib.hid (HG.out v1 hgrow); have HA := Lib.hid hat; clear hown1 hgrow hat hR1 hP1))
  all_goals go_wp2
  all_goals go_end0
  all_goals exact ⟨rfl, _, v1, HO.out, HW.out, HA.out.imp (fun h => h.symm) (fun h => ⟨gg, by omega, rfl⟩), rfl⟩
theorem pol3_ok (i : Nat) (Bp R base n : Nat) (v : Value) (xs : List Value) (k o p q : Value) (s1 s2 s3 : Value) (w : World) (hp : Blk w Bp #[.pointer (some ⟨R, 0, none⟩)] 215) (hR : Blk w R #[k, o, p, q, s1, s2, s3] 168)
    (hv : v = s3) (hown : w.ownsRow base 3 1 v n xs) (hn : n ≤ 1000) (hbase : base ≤ w.heap.size) (hne : some R ≠ v.ownBlock) (hne2 : some Bp ≠ v.ownBlock) :
    Calls Tryz.prog 211 #[.int .i64 i, .pointer (some ⟨Bp, 0, none⟩)] w fun e w' => e = .returned (.tuple #[]) ∧ ∃ v' w1, w1.ownsRow base 3 1 v' (n + 1) (xs ++ [.int .i64 i]) ∧ w.grownBy w1 v.ownBlock ∧ (v'.ownBlock = v.ownBlock ∨ ∃ g, w.heap.size ≤ g ∧ v'.ownBlock = some g) ∧ w' = w1.setCell ⟨R, 6, none⟩ v' := by
  subst hv
  obtain ⟨i0, hi, hz0, hz1, hz2⟩ := info_parts info_int
  have hb := owns_form hown
  obtain ⟨oo, cc, hsl⟩ := hb
  subst hsl
  have cp : w.cell? ⟨Bp, 0, none⟩ = some (.pointer (some ⟨R, 0, none⟩)) := by rw [hp.cell]; rfl
  have cr : w.cell? ⟨R, 6, none⟩ = some (.slice oo n cc) := by rw [hR.cell]; rfl
  have lp := hp.lt
  have lr := hR.lt
  have HR := Lib.hid hR
  have HP := Lib.hid hp
  have hna : (w.alloc (.cells #[.int .i64 i] 3)).heap[w.heap.size]? = some (.cells #[.int .i64 i] 3 (0, 0)) := Blk.new w _ _
  have HG := Lib.hid (fun (v1 : World) (g : (w.alloc (.cells #[.int .i64 i] 3)).drew.grownBy v1 (Value.slice oo n cc).ownBlock) => ((World.grownBy_alloc w (.cells #[.int .i64 i] 3) _).trans (⟨g.os, g.tape, g.output, g.size, g.block⟩ : (w.alloc (.cells #[.int .i64 i] 3)).grownBy v1 (Value.slice oo n cc).ownBlock)))
  clear hp hR
  go_enter Tryz.func211, Tryz.ntmps211
  go_wp2_with fail
  go_region_law ((refine step_append_lies _ (by rfl) _ _ _ (by rfl) base 3 i0 _ 1 8 Tryz.underlying52 hi hz0 hz1 hz2 rfl (by omega) (.slice oo n cc) n xs (by rfl) ((hown.alloc _).drew) ⟨w.heap.size, 0, none⟩ 1 1 [.int .i64 i] (by rfl) (by rfl) (World.news_of_block (cs := #[.int .i64 i]) (t := 3) (fr := (0, 0)) hna) (by simp [Value.oneCell']) (by omega) (by unfold maxLen; omega) (by omega) (by simp; omega) (w.heap.size + 1) (by simp) ?_; intro gg cap v1 hown1 hgrow hat hlt; have hR1 := (HR.out.alloc (.cells #[.int .i64 i] 3)).drew.grown hgrow hne; have hP1 := (HP.out.alloc (.cells #[.int .i64 i] 3)).drew.grown hgrow hne2; have e1 : v1.cell? ⟨R, 6, none⟩ = some (.slice oo n cc) := (by rw [hR1.cell]; rfl); have e2 := hR1.free 6; have e3 : v1.cell? ⟨Bp, 0, none⟩ = some (.pointer (some ⟨R, 0, none⟩)) := (by rw [hP1.cell]; rfl); have HO := Lib.hid hown1; have HW := Lib.hid (HG.out v1 hgrow); have HA := Lib.hid hat; clear hown1 hgrow hat hR1 hP1))
  all_goals go_wp2
  all_goals go_end0
  all_goals exact ⟨rfl, _, v1, HO.out, HW.out, HA.out.imp (fun h => h.symm) (fun h => ⟨gg, by omega, rfl⟩), rfl⟩
end Go.Proofs.YtblaphkaklocfaaGreatDoor
/- Contracts: occurrence.policies; Free. -/
namespace Go.Proofs.YtblaphkaklocfaaGreatDoor
open Go.ChangeShapes Go.WideShapes Go.ChangeAt Go.RowKit Go.Maps Go.ChangeMaps Go.MapKept
set_option maxHeartbeats 4000000
set_option maxRecDepth 20000

abbrev polV (n b : Nat) : Value := .func (.func n) #[] #[.pointer (some ⟨b, 0, none⟩)]
open Classical in
/-- How a closure of the map reads. -/
noncomputable def clElem (b : Nat) (v : Value) : Option (DataW Unit × List MemPlace) :=
  if v = polV 209 b then some (.lit (.int .i64 2), [])
  else if v = polV 210 b then some (.lit (.int .i64 3), [])
  else if v = polV 211 b then some (.lit (.int .i64 1), [])
  else if v = .nilFunc then some (.lit (.int .i64 0), []) else none
theorem cl_1 (b : Nat) : clElem b (polV 209 b) = some (.lit (.int .i64 2), []) := if_pos rfl
theorem cl_2 (b : Nat) : clElem b (polV 210 b) = some (.lit (.int .i64 3), []) := by
  unfold clElem
  rw [if_neg (by simp), if_pos rfl]
theorem cl_3 (b : Nat) : clElem b (polV 211 b) = some (.lit (.int .i64 1), []) := by
  unfold clElem
  rw [if_neg (by simp), if_neg (by simp), if_pos rfl]
theorem cl_0 (b : Nat) : clElem b .nilFunc = some (.lit (.int .i64 0), []) := by
  unfold clElem
  rw [if_neg (by simp), if_neg (by simp), if_neg (by simp), if_pos rfl]
theorem cl_inv {b : Nat} {v : Value} {k : Int} {ps : List MemPlace} (h : clElem b v = some (.lit (.int .i64 k), ps)) : (k = 2 → v = polV 209 b) ∧ (k = 3 → v = polV 210 b) ∧ (k = 1 → v = polV 211 b) := by
  unfold clElem at h
  split at h
  · simp only [Option.some.injEq, Prod.mk.injEq, DataW.lit.injEq, Lit.int.injEq, true_and] at h
    exact ⟨fun _ => by assumption, fun e => by omega, fun e => by omega⟩
  · split at h
    · simp only [Option.some.injEq, Prod.mk.injEq, DataW.lit.injEq, Lit.int.injEq, true_and] at h
      exact ⟨fun e => by omega, fun _ => by assumption, fun e => by omega⟩
    · split at h
      · simp only [Option.some.injEq, Prod.mk.injEq, DataW.lit.injEq, Lit.int.injEq, true_and] at h
        exact ⟨fun e => by omega, fun e => by omega, fun _ => by assumption⟩
      · split at h
        · simp only [Option.some.injEq, Prod.mk.injEq, DataW.lit.injEq, Lit.int.injEq, true_and] at h
          exact ⟨fun e => by omega, fun e => by omega, fun e => by omega⟩
        · cases h
def polD : DataW Unit := (((DataW.map []).put (.int .i64 2) (.lit (.int .i64 2))).put (.int .i64 3) (.lit (.int .i64 3))).put (.int .i64 1) (.lit (.int .i64 1))
theorem under_mp : Tryz.prog.underlying 213 = some (.map 3 217) := by kernel_rfl
theorem zero_fi (w : World) : (zeroValue 217).run Tryz.prog w = .ok .nilFunc w := by kernel_rfl
/-- The function for a policy. -/
def polN (k : Int) : Nat := if k = 2 then 209 else if k = 3 then 210 else 211
theorem pol_look {w : World} {b B : Nat} (h : w.ownsMap Tryz.prog 3 (clElem b) B 3 polD) (k : Int) (hk : 1 ≤ k ∧ k ≤ 3) :
    (Instr.lookup 213 (.map (some B)) (.int .i64 k) false).run Tryz.prog w = .ok (polV (polN k) b) w := by
  obtain ⟨v, ps, hrun, hv⟩ := h.lookup (t := 213) (e := 217) key_i under_mp (zero_fi w) (zd := .lit (.int .i64 0)) (zp := []) (cl_0 b) (keyOf_int_mk Tryz.underlying3 (a := k) (wf64 (by omega)))
  rw [hrun]
  rcases (show k = 1 ∨ k = 2 ∨ k = 3 by omega) with rfl | rfl | rfl
  · rw [show polD.atKey (.int .i64 1) (.lit (.int .i64 0)) = .lit (.int .i64 1) from by kernel_rfl] at hv
    rw [(cl_inv hv).2.2 rfl]; rfl
  · rw [show polD.atKey (.int .i64 2) (.lit (.int .i64 0)) = .lit (.int .i64 2) from by kernel_rfl] at hv
    rw [(cl_inv hv).1 rfl]; rfl
  · rw [show polD.atKey (.int .i64 3) (.lit (.int .i64 0)) = .lit (.int .i64 3) from by kernel_rfl] at hv
    rw [(cl_inv hv).2.1 rfl]; rfl
theorem policies_ok (R : Nat) (w : World) :
    Calls Tryz.prog 155 #[.pointer (some ⟨R, 0, none⟩)] w fun e w' => e = .returned (.map (some (w.heap.size + 1))) ∧ w'.ownsMap Tryz.prog 3 (clElem w.heap.size) (w.heap.size + 1) 3 polD ∧ Blk w' w.heap.size #[.pointer (some ⟨R, 0, none⟩)] 215 ∧ Kept w w' := by
  have hmm := @run_makeMap Tryz.prog
  have hmf : ∀ (fn : Fn) (first cap : Array Value) (w : World), (Instr.makeFunc fn first cap).run Tryz.prog w = .ok (.func fn first cap) w := fun _ _ _ _ => rfl
  have hown0 := World.ownsMap_made (w.alloc (.cells #[.pointer (some ⟨R, 0, none⟩)] 215)) Tryz.prog 3 (clElem w.heap.size)
  rw [World.size_alloc] at hown0
  have hB0 := (Blk.new w #[.pointer (some ⟨R, 0, none⟩)] 215).alloc (.map #[] 0)
  have hb0 : Kept w ((w.alloc (.cells #[.pointer (some ⟨R, 0, none⟩)] 215)).alloc (.map #[] 0)) := ((Kept.refl w).alloc _).alloc _
  go_enter Tryz.func155, Tryz.ntmps155
  go_wp2_with fail
  obtain ⟨wa, hra, hown1, hga⟩ := hown0.update (t := 213) (e := 217) key_i under_mp (by unfold maxLen; omega) (keyOf_int_mk Tryz.underlying3 (a := 2) (by decide)) (val := polV 209 w.heap.size) (d := .lit (.int .i64 2)) (ps := []) (cl_1 _)
  have hba : Kept w wa := Below.grown hb0 hga (by simp; omega) (fun j hj => by cases hj; omega)
  have hBa := hB0.grown hga (by intro e; injection e with e; omega)
  rw [hra]
  go_wp2_with fail
  obtain ⟨wb, hrb, hown2, hgb⟩ := hown1.update (t := 213) (e := 217) key_i under_mp (by unfold maxLen; omega) (keyOf_int_mk Tryz.underlying3 (a := 3) (by decide)) (val := polV 210 w.heap.size) (d := .lit (.int .i64 3)) (ps := []) (cl_2 _)
  have hbb : Kept w wb := Below.grown hba hgb hba.size (fun j hj => by cases hj; omega)
  have hBb := hBa.grown hgb (by intro e; injection e with e; omega)
  rw [hrb]
  go_wp2_with fail
  obtain ⟨wc, hrc, hown3, hgc⟩ := hown2.update (t := 213) (e := 217) key_i under_mp (by unfold maxLen; omega) (keyOf_int_mk Tryz.underlying3 (a := 1) (by decide)) (val := polV 211 w.heap.size) (d := .lit (.int .i64 1)) (ps := []) (cl_3 _)
  have hbc : Kept w wc := Below.grown hbb hgc hbb.size (fun j hj => by cases hj; omega)
  have hBc := hBb.grown hgc (by intro e; injection e with e; omega)
  rw [hrc]
  go_wp2
  go_ret
  exact ⟨rfl, hown3, hBc, hbc⟩
/-- A result, as it is handed on. -/
abbrev resV (p : Cand) (v1 v2 v3 : Value) : Value := .agg #[.int .i64 p.kind, .int .i64 p.idx, .int .i64 p.rank, .string p.id, v1, v2, v3]
theorem Free_ok (f : Int) (vL vM : Value) (p : Cand) (v1 v2 v3 : Value) (w : World) (c1 : v1.oneCell' = true) (c2 : v2.oneCell' = true) (c3 : v3.oneCell' = true) (c4 : vL.oneCell' = true) (c5 : vM.oneCell' = true) :
    Calls Tryz.prog 106 #[.agg #[.int .i64 f, vL, vM], resV p v1 v2 v3] w fun e w' => e = .returned (.bool (decide (f < p.rank))) ∧ Kept w w' := by
  obtain ⟨pk, pi, pr, ps⟩ := p
  dsimp only [resV]
  go_enter Tryz.func106, Tryz.ntmps106
  go_wp2
  go_ret
  exact ⟨rfl, (by repeat (first | with_reducible exact Kept.refl _ | with_reducible assumption | with_reducible refine Kept.drew ?_ | with_reducible refine Kept.drewN ?_ _ | with_reducible refine Kept.alloc ?_ _ | (with_reducible refine Kept.setCell ?_ (by first | exact Nat.le_refl _ | omega | (simp; done) | (simp; omega)) _) | (with_reducible refine Kept.trans ?_ (by with_reducible assumption))))⟩
end Go.Proofs.YtblaphkaklocfaaGreatDoor
/- A result in memory, and what each policy does to it. -/
namespace Go.Proofs.YtblaphkaklocfaaGreatDoor
open Go.ChangeShapes Go.WideShapes Go.ChangeAt Go.RowKit
set_option maxHeartbeats 4000000
set_option maxRecDepth 20000

def natV (l : List Nat) : List Value := l.map (fun n : Nat => Value.int .i64 n)
theorem natV_snoc (l : List Nat) (i : Nat) : natV (l ++ [i]) = natV l ++ [.int .i64 i] := by simp [natV]
def Ap (v v' : Value) : Prop := v.ownBlock = none ∨ v.ownBlock ≠ v'.ownBlock
theorem Ap.symm {v v' : Value} (h : Ap v v') : Ap v' v := by
  unfold Ap at *
  by_cases e : v'.ownBlock = none
  · exact .inl e
  · refine .inr (fun g => ?_)
    rcases h with h | h
    · exact e (g.trans h)
    · exact h g.symm
/-- The result in block R: its principal celebration, and three lists of feasts in rows of the call's own. -/
structure ResSt (base R : Nat) (p : Cand) (c o m : List Nat) (v1 v2 v3 : Value) (w : World) : Prop where
  blk : Blk w R #[.int .i64 p.kind, .int .i64 p.idx, .int .i64 p.rank, .string p.id, v1, v2, v3] 168
  r1 : w.ownsRow base 3 1 v1 c.length (natV c)
  r2 : w.ownsRow base 3 1 v2 o.length (natV o)
  r3 : w.ownsRow base 3 1 v3 m.length (natV m)
  a12 : Ap v1 v2
  a13 : Ap v1 v3
  a23 : Ap v2 v3
theorem ResSt.kept {base R : Nat} {p : Cand} {c o m : List Nat} {v1 v2 v3 : Value} {w w' : World} (h : ResSt base R p c o m v1 v2 v3 w) (k : Kept w w') : ResSt base R p c o m v1 v2 v3 w' :=
  ⟨h.blk.kept k, owns_kept h.r1 k, owns_kept h.r2 k, owns_kept h.r3 k, h.a12, h.a13, h.a23⟩
/-- What a policy's closure turns: the result's block, and rows of numbers of the call's own. -/
structure KI (base R : Nat) (w w' : World) : Prop where
  low : Below base w w'
  same : ∀ k o, w.heap[k]? = some o → k ≠ R → (∀ cs fr, o ≠ .cells cs 3 fr) → w'.heap[k]? = some o
theorem KI.blk {base R b : Nat} {w w' : World} {cs : Array Value} {t : TypeId} (h : KI base R w w') (hb : Blk w b cs t) (hne : b ≠ R) (ht : t ≠ 3) : Blk w' b cs t :=
  h.same b _ hb hne (fun cs fr e => ht (by injection e))
theorem owns_ne_blk {w : World} {b n s k : Nat} {e t : TypeId} {v : Value} {xs : List Value} {cs : Array Value} (h : w.ownsRow b e s v n xs) (hk : Blk w k cs t) (hne : t ≠ e) : some k ≠ v.ownBlock := by
  obtain ⟨h1, ⟨rfl, _⟩ | ⟨g, cap, cur, rfl, h4, h5, h6⟩⟩ := h
  · intro e; cases e
  · intro e2
    have e3 : k = g := by injection e2
    subst e3
    have hk2 : w.heap[k]? = some (.cells cs t (0, 0)) := hk
    rw [hk2] at h5
    injection h5 with h5
    injection h5 with _ h5 _
    exact hne h5
theorem owns_setOther {w : World} {b n s k : Nat} {e t : TypeId} {v : Value} {xs : List Value} {cs : Array Value} (h : w.ownsRow b e s v n xs) (hk : Blk w k cs t) (hne : t ≠ e) (o : Nat) (u : Value) : (w.setCell ⟨k, o, none⟩ u).ownsRow b e s v n xs := by
  have hx := owns_ne_blk h hk hne
  obtain ⟨h1, h2 | ⟨g, cap, cur, rfl, h4, h5, h6⟩⟩ := h
  · exact ⟨h1, .inl h2⟩
  · exact ⟨h1, .inr ⟨g, cap, cur, rfl, h4, (Below.heap_setCell w _ u g (fun e => hx (by rw [e]; rfl))).trans h5, h6⟩⟩
theorem ki_of {base R n : Nat} {w w1 : World} {v : Value} {xs : List Value} {cs : Array Value} (hown : w.ownsRow base 3 1 v n xs) (hR : Blk w R cs 168) (hbR : base ≤ R) (hbw : base ≤ w.heap.size) (g : w.grownBy w1 v.ownBlock) (o : Nat) (u : Value) : KI base R w (w1.setCell ⟨R, o, none⟩ u) := by
  refine ⟨(Below.grown (Below.refl base w) g hbw (fun k e => (hown.lt k e).1)).setCell hbR u, fun k ob hk hne hno => ?_⟩
  refine (Below.heap_setCell w1 _ u k hne).trans ((g.block k (Array.getElem?_eq_some_iff.1 hk).1 (fun e => ?_)).trans hk)
  obtain ⟨_, ⟨rfl, _⟩ | ⟨g', cap, cur, rfl, h4, h5, h6⟩⟩ := hown
  · cases e
  · have e3 : k = g' := by injection e
    subst e3
    rw [hk] at h5
    injection h5 with h5
    exact hno _ _ h5
theorem pol1_st {base R Bp : Nat} {p : Cand} {c o m : List Nat} {v1 v2 v3 : Value} {w : World} (h : ResSt base R p c o m v1 v2 v3 w) (hp : Blk w Bp #[.pointer (some ⟨R, 0, none⟩)] 215) (i : Nat) (hn : c.length ≤ 1000) (hbR : base ≤ R) (hbw : base ≤ w.heap.size) :
    Calls Tryz.prog 209 #[.int .i64 i, .pointer (some ⟨Bp, 0, none⟩)] w fun e w' => e = .returned (.tuple #[]) ∧ (∃ v', ResSt base R p (c ++ [i]) o m v' v2 v3 w') ∧ KI base R w w' := by
  refine (pol1_ok i Bp R base c.length v1 (natV c) _ _ _ _ v1 v2 v3 w hp h.blk rfl h.r1 hn hbw (owns_ne_blk h.r1 h.blk (by decide)) (owns_ne_blk h.r1 hp (by decide))).mono ?_
  rintro e w' ⟨rfl, v', w1, hrow, hg, hloc, rfl⟩
  have hb1 := h.blk.grown hg (owns_ne_blk h.r1 h.blk (by decide))
  have hap : ∀ (u : Value), Ap v1 u → ∀ {n : Nat} {xs : List Value}, w.ownsRow base 3 1 u n xs → Ap v' u := fun u ha n xs hu => by
    rcases hloc with hl | ⟨g, hge, hl⟩
    · unfold Ap at *
      rw [hl]
      exact ha
    · refine .inr (fun e => ?_)
      rw [hl] at e
      have := (hu.lt g e.symm).2
      omega
  exact ⟨rfl, ⟨v', hb1.set 4 v', (by rw [List.length_append, natV_snoc]; exact owns_setOther hrow hb1 (by decide) _ _), (owns_setOther (owns_grown h.r2 hg (h.a12).symm) hb1 (by decide) _ _), (owns_setOther (owns_grown h.r3 hg (h.a13).symm) hb1 (by decide) _ _), (hap v2 (h.a12) h.r2), (hap v3 (h.a13) h.r3), h.a23⟩, ki_of h.r1 h.blk hbR hbw hg _ _⟩
theorem pol2_st {base R Bp : Nat} {p : Cand} {c o m : List Nat} {v1 v2 v3 : Value} {w : World} (h : ResSt base R p c o m v1 v2 v3 w) (hp : Blk w Bp #[.pointer (some ⟨R, 0, none⟩)] 215) (i : Nat) (hn : o.length ≤ 1000) (hbR : base ≤ R) (hbw : base ≤ w.heap.size) :
    Calls Tryz.prog 210 #[.int .i64 i, .pointer (some ⟨Bp, 0, none⟩)] w fun e w' => e = .returned (.tuple #[]) ∧ (∃ v', ResSt base R p c (o ++ [i]) m v1 v' v3 w') ∧ KI base R w w' := by
  refine (pol2_ok i Bp R base o.length v2 (natV o) _ _ _ _ v1 v2 v3 w hp h.blk rfl h.r2 hn hbw (owns_ne_blk h.r2 h.blk (by decide)) (owns_ne_blk h.r2 hp (by decide))).mono ?_
  rintro e w' ⟨rfl, v', w1, hrow, hg, hloc, rfl⟩
  have hb1 := h.blk.grown hg (owns_ne_blk h.r2 h.blk (by decide))
  have hap : ∀ (u : Value), Ap v2 u → ∀ {n : Nat} {xs : List Value}, w.ownsRow base 3 1 u n xs → Ap v' u := fun u ha n xs hu => by
    rcases hloc with hl | ⟨g, hge, hl⟩
    · unfold Ap at *
      rw [hl]
      exact ha
    · refine .inr (fun e => ?_)
      rw [hl] at e
      have := (hu.lt g e.symm).2
      omega
  exact ⟨rfl, ⟨v', hb1.set 5 v', (owns_setOther (owns_grown h.r1 hg (h.a12.symm).symm) hb1 (by decide) _ _), (by rw [List.length_append, natV_snoc]; exact owns_setOther hrow hb1 (by decide) _ _), (owns_setOther (owns_grown h.r3 hg (h.a23).symm) hb1 (by decide) _ _), ((hap v1 (h.a12.symm) h.r1)).symm, h.a13, (hap v3 (h.a23) h.r3)⟩, ki_of h.r2 h.blk hbR hbw hg _ _⟩
theorem pol3_st {base R Bp : Nat} {p : Cand} {c o m : List Nat} {v1 v2 v3 : Value} {w : World} (h : ResSt base R p c o m v1 v2 v3 w) (hp : Blk w Bp #[.pointer (some ⟨R, 0, none⟩)] 215) (i : Nat) (hn : m.length ≤ 1000) (hbR : base ≤ R) (hbw : base ≤ w.heap.size) :
    Calls Tryz.prog 211 #[.int .i64 i, .pointer (some ⟨Bp, 0, none⟩)] w fun e w' => e = .returned (.tuple #[]) ∧ (∃ v', ResSt base R p c o (m ++ [i]) v1 v2 v' w') ∧ KI base R w w' := by
  refine (pol3_ok i Bp R base m.length v3 (natV m) _ _ _ _ v1 v2 v3 w hp h.blk rfl h.r3 hn hbw (owns_ne_blk h.r3 h.blk (by decide)) (owns_ne_blk h.r3 hp (by decide))).mono ?_
  rintro e w' ⟨rfl, v', w1, hrow, hg, hloc, rfl⟩
  have hb1 := h.blk.grown hg (owns_ne_blk h.r3 h.blk (by decide))
  have hap : ∀ (u : Value), Ap v3 u → ∀ {n : Nat} {xs : List Value}, w.ownsRow base 3 1 u n xs → Ap v' u := fun u ha n xs hu => by
    rcases hloc with hl | ⟨g, hge, hl⟩
    · unfold Ap at *
      rw [hl]
      exact ha
    · refine .inr (fun e => ?_)
      rw [hl] at e
      have := (hu.lt g e.symm).2
      omega
  exact ⟨rfl, ⟨v', hb1.set 6 v', (owns_setOther (owns_grown h.r1 hg (h.a13.symm).symm) hb1 (by decide) _ _), (owns_setOther (owns_grown h.r2 hg (h.a23.symm).symm) hb1 (by decide) _ _), (by rw [List.length_append, natV_snoc]; exact owns_setOther hrow hb1 (by decide) _ _), h.a12, ((hap v1 (h.a13.symm) h.r1)).symm, ((hap v2 (h.a23.symm) h.r2)).symm⟩, ki_of h.r3 h.blk hbR hbw hg _ _⟩
end Go.Proofs.YtblaphkaklocfaaGreatDoor
/- Contract: occurrence.Resolve. -/
namespace Go.Proofs.YtblaphkaklocfaaGreatDoor
open Go.ChangeShapes Go.WideShapes Go.ChangeAt Go.RowKit
set_option maxHeartbeats 16000000
set_option maxRecDepth 20000

theorem KI.trans {base R : Nat} {a b c : World} (h : KI base R a b) (k : KI base R b c) : KI base R a c :=
  ⟨h.low.trans k.low, fun i o hi hne hno => k.same i o (h.same i o hi hne hno) hne hno⟩
theorem KI.of_kept {base R : Nat} {a b : World} (h : Kept a b) (hb : base ≤ a.heap.size) : KI base R a b :=
  ⟨Below.mono h hb, fun i o hi _ _ => (h.block i (Array.getElem?_eq_some_iff.1 hi).1).trans hi⟩
theorem KI.setR {base R : Nat} {a b : World} (h : KI base R a b) (hb : base ≤ R) (o : Nat) (u : Value) : KI base R a (b.setCell ⟨R, o, none⟩ u) :=
  h.trans ⟨(Below.refl base b).setCell hb u, fun i ob hi hne _ => (Below.heap_setCell b _ u i hne).trans hi⟩
theorem KI.crow {base R g cap : Nat} {w w' : World} {d : Array Cand} (h : KI base R w w') (hc : CRow w g cap d) (hg : g ≠ R) : CRow w' g cap d := by
  obtain ⟨cur, h1, h2⟩ := hc
  exact ⟨cur, h.blk h1 hg (by decide), h2⟩
theorem KI.map {base R B b n : Nat} {w w' : World} {D : DataW Unit} (h : KI base R w w') (hm : w.ownsMap Tryz.prog 3 (clElem b) B n D) (hB : B ≠ R) : w'.ownsMap Tryz.prog 3 (clElem b) B n D := by
  obtain ⟨es, cl, h1, h2⟩ := hm
  exact ⟨es, cl, h.same B _ h1 hB (fun cs fr e => by cases e), h2⟩
theorem mapK {B b n : Nat} {w w' : World} {D : DataW Unit} (hm : w.ownsMap Tryz.prog 3 (clElem b) B n D) (k : Kept w w') : w'.ownsMap Tryz.prog 3 (clElem b) B n D := by
  have hlt := hm.lt
  obtain ⟨es, cl, h1, h2⟩ := hm
  exact ⟨es, cl, (k.block B hlt).trans h1, h2⟩
theorem ResSt.principal {base R : Nat} {p : Cand} {c o m : List Nat} {v1 v2 v3 : Value} {w : World} (h : ResSt base R p c o m v1 v2 v3 w) (x : Cand) :
    ResSt base R x c o m v1 v2 v3 ((((w.setCell ⟨R, 0, none⟩ (.int .i64 x.kind)).setCell ⟨R, 1, none⟩ (.int .i64 x.idx)).setCell ⟨R, 2, none⟩ (.int .i64 x.rank)).setCell ⟨R, 3, none⟩ (.string x.id)) := by
  have b1 := h.blk.set 0 (.int .i64 x.kind)
  have b2 := b1.set 1 (.int .i64 x.idx)
  have b3 := b2.set 2 (.int .i64 x.rank)
  have four : ∀ {v : Value} {n : Nat} {xs : List Value}, w.ownsRow base 3 1 v n xs → ((((w.setCell ⟨R, 0, none⟩ (.int .i64 x.kind)).setCell ⟨R, 1, none⟩ (.int .i64 x.idx)).setCell ⟨R, 2, none⟩ (.int .i64 x.rank)).setCell ⟨R, 3, none⟩ (.string x.id)).ownsRow base 3 1 v n xs := fun hv =>
    owns_setOther (owns_setOther (owns_setOther (owns_setOther hv h.blk (by decide) _ _) b1 (by decide) _ _) b2 (by decide) _ _) b3 (by decide) _ _
  exact ⟨b3.set 3 (.string x.id), four h.r1, four h.r2, four h.r3, h.a12, h.a13, h.a23⟩
/-- What has been made of the first j of the sorted celebrations. -/
def resP (sl : List Cand) (j : Nat) : Cand := if j = 0 then default else sl[0]!
def resL (M : List Rec) (pol : Int) (sl : List Cand) (j : Nat) : List Nat := pick M pol ((sl.take j).drop 1)
theorem resL_one (M : List Rec) (pol : Int) (sl : List Cand) : resL M pol sl 1 = [] := by
  unfold resL pick
  cases sl <;> simp
theorem resL_zero (M : List Rec) (pol : Int) (sl : List Cand) : resL M pol sl 0 = [] := by simp [resL, pick]
theorem resL_succ (M : List Rec) (pol : Int) (sl : List Cand) (j : Nat) (hj : j < sl.length) (h1 : 1 ≤ j) : resL M pol sl (j + 1) = resL M pol sl j ++ (if (sl[j]!).kind = 2 ∧ polOf M (sl[j]!).idx = pol then [(sl[j]!).idx] else []) := by
  unfold resL
  have e : sl.take (j + 1) = sl.take j ++ [sl[j]!] := by rw [List.take_add_one, List.getElem?_eq_getElem hj, getElem!_pos sl j hj]; rfl
  rw [e, List.drop_append_of_le_length (by simp; omega)]
  unfold pick
  rw [List.filter_append, List.map_append]
  congr 1
  by_cases h : (sl[j]!).kind = 2 ∧ polOf M (sl[j]!).idx = pol
  · rw [if_pos h, List.filter_cons_of_pos (by rw [decide_eq_true h.1, decide_eq_true h.2]; rfl)]; rfl
  · rw [if_neg h, List.filter_cons_of_neg (by simpa using h)]; rfl
theorem resL_len (M : List Rec) (pol : Int) (sl : List Cand) (j : Nat) : (resL M pol sl j).length ≤ sl.length := by
  unfold resL pick
  rw [List.length_map]
  refine Nat.le_trans (List.length_filter_le _ _) ?_
  simp
  omega
theorem res_end (M : List Rec) (l : List Cand) (h : 1 ≤ (sortC l).length) : resolveC M l = ⟨resP (sortC l) (sortC l).length, resL M 2 (sortC l) (sortC l).length, resL M 3 (sortC l) (sortC l).length, resL M 1 (sortC l) (sortC l).length⟩ := by
  unfold resolveC resP resL
  rw [List.take_length, if_neg (by omega)]
  cases hs : sortC l with
  | nil => rw [hs] at h; simp at h
  | cons p t => simp
end Go.Proofs.YtblaphkaklocfaaGreatDoor
/- Contract: occurrence.Resolve: the walk. -/
namespace Go.Proofs.YtblaphkaklocfaaGreatDoor
open Go.ChangeShapes Go.WideShapes Go.ChangeAt Go.RowKit
set_option maxHeartbeats 16000000
set_option maxRecDepth 20000

theorem owns_set7 {w : World} {base k n : Nat} {cs : Array Value} {v : Value} {xs : List Value} (hk : Blk w k cs 168) (u0 u1 u2 u3 u4 u5 u6 : Value) (h : w.ownsRow base 3 1 v n xs) :
    (((((((w.setCell ⟨k, 0, none⟩ u0).setCell ⟨k, 1, none⟩ u1).setCell ⟨k, 2, none⟩ u2).setCell ⟨k, 3, none⟩ u3).setCell ⟨k, 4, none⟩ u4).setCell ⟨k, 5, none⟩ u5).setCell ⟨k, 6, none⟩ u6).ownsRow base 3 1 v n xs :=
  owns_setOther (owns_setOther (owns_setOther (owns_setOther (owns_setOther (owns_setOther (owns_setOther h hk (by decide) _ _) (hk.set 0 _) (by decide) _ _) ((hk.set 0 _).set 1 _) (by decide) _ _) (((hk.set 0 _).set 1 _).set 2 _) (by decide) _ _) ((((hk.set 0 _).set 1 _).set 2 _).set 3 _) (by decide) _ _) (((((hk.set 0 _).set 1 _).set 2 _).set 3 _).set 4 _) (by decide) _ _) ((((((hk.set 0 _).set 1 _).set 2 _).set 3 _).set 4 _).set 5 _) (by decide) _ _
theorem Resolve_ok (f : Int) (o o' : Option Addr) (q q' : Nat) (L M : List Rec) (w : World) (hM : IsRecs w o' M) (b0 : Nat) (vl : Value) (l : List Cand) (hl : w.ownsRow b0 166 4 vl l.length (flatC l))
    (h1 : 1 ≤ l.length) (h2 : l.length ≤ 1000) (hS : StableAt l.length) (hx : ∀ x ∈ l, x.kind = 2 → x.idx < M.length ∧ 1 ≤ polOf M x.idx ∧ polOf M x.idx ≤ 3) :
    Calls Tryz.prog 104 #[catV f o o' q q' L M, vl] w fun e w' => ∃ v1 v2 v3, e = .returned (resV (resolveC M l).p v1 v2 v3) ∧ w'.ownsRow w.heap.size 3 1 v1 (resolveC M l).com.length (natV (resolveC M l).com) ∧
      w'.ownsRow w.heap.size 3 1 v2 (resolveC M l).omi.length (natV (resolveC M l).omi) ∧ w'.ownsRow w.heap.size 3 1 v3 (resolveC M l).imp.length (natV (resolveC M l).imp) ∧ Kept w w' := by
  have KP := Lib.hid (fun w => policies_ok (w.heap.size) w)
  have KP2 := Lib.hid (fun R w => policies_ok R w)
  have KS := Lib.hid (fun w' (k : Kept w w') => PSort_ok b0 vl l w' (owns_kept hl k) h1 h2 hS)
  have HM := Lib.hid hM
  have hsl : (sortC l).length = l.length := by unfold sortC; rw [List.length_reverse, isortR_length]
  have HX := Lib.hid (show ∀ x ∈ sortC l, x.kind = 2 → x.idx < M.length ∧ 1 ≤ polOf M x.idx ∧ polOf M x.idx ≤ 3 from fun x hx' => hx x (by
    have := (isortR_perm precC l).mem_iff (a := x)
    unfold sortC at hx'
    rw [List.mem_reverse] at hx'
    exact this.1 hx'))
  have HE := Lib.hid (res_end M l (by omega))
  rw [HE.out]
  have hs1 : 1 ≤ (sortC l).length ∧ (sortC l).length ≤ 1000 := by omega
  generalize sortC l = sl at *
  clear hl hS hx hM HE hsl h1 h2
  go_enter Tryz.func104, Tryz.ntmps104
  go_wp2_with fail
  go_at_call 155
  (with_reducible refine (KP2.out _ _).mono ?_)
  rintro e w1 ⟨rfl, hmap, hbp, hk1⟩
  simp only [World.size_alloc] at hmap hbp
  have bC := (((Blk.new w _ _).alloc _).alloc _).kept hk1
  have b4 := ((Blk.new (w.alloc _) _ _).alloc _).kept hk1
  have b5 := (Blk.new ((w.alloc _).alloc _) _ _).kept hk1
  simp only [World.size_alloc] at b4 b5
  have hk01 : Kept w w1 := ((((Kept.refl w).alloc _).alloc _).alloc _).trans hk1
  go_wp2_with fail
  go_at_call 156
  (with_reducible refine (KS.out _ hk01).mono ?_)
  rintro e w2 ⟨v', rfl, hown, hk2⟩
  have hk02 := hk01.trans hk2
  obtain ⟨g, cap, rfl⟩ : ∃ g cap, v' = .slice (some ⟨g, 0, none⟩) sl.length cap := by
    obtain ⟨_, ⟨_, h0⟩ | ⟨g', cap', cur, rfl, _⟩⟩ := hown
    · omega
    · exact ⟨_, _, rfl⟩
  have HC := Lib.hid (crow_of_owns hown).1
  have hgb := (crow_of_owns hown).2
  have HmapK := Lib.hid (mapK hmap hk2)
  have HbC := Lib.hid (bC.kept hk2)
  have Hbp := Lib.hid (hbp.kept hk2)
  have Hb4 := Lib.hid (b4.kept hk2)
  have hst0 : ResSt w.heap.size (w.heap.size + 1 + 1) default [] [] [] (.slice none 0 0) (.slice none 0 0) (.slice none 0 0) w2 :=
    ⟨b5.kept hk2, World.ownsRow_nil _ _ _ _, World.ownsRow_nil _ _ _ _, World.ownsRow_nil _ _ _ _, .inl rfl, .inl rfl, .inl rfl⟩
  have HST := Lib.hid hst0
  have hsz1 := hk1.size
  have hsz2 := hk2.size
  simp only [World.size_alloc] at hsz1
  clear hst0 b4 b5 bC hbp hmap hown KP KP2 KS hk1
  go_wp2_with fail
  go_loopw [13] (fun i wr => ∃ (j : Nat) (v1 v2 v3 : Value), j ≤ sl.length ∧ i = .int .i64 j ∧ Hid (ResSt w.heap.size (w.heap.size + 1 + 1) (resP sl j) (resL M 2 sl j) (resL M 3 sl j) (resL M 1 sl j) v1 v2 v3 wr) ∧ Hid (KI w.heap.size (w.heap.size + 1 + 1) w2 wr)) (fun i _ => (sl.length - intOf i).toNat)
  case atStart => exact ⟨0, _, _, _, by omega, rfl, (show ResSt _ _ _ _ _ _ _ _ _ _ from by rw [resL_zero, resL_zero, resL_zero]; exact HST.out), KI.of_kept (Kept.refl _) hk02.size⟩
  case round =>
    obtain ⟨j, v1, v2, v3, hj, rfl, HR, HK⟩ := hrel
    by_cases hlt : j < sl.length
    · have hkw : Kept w wr := Below.trans hk02 HK.out.low
      have hltz : (j : Int) < (sl.length : Int) := by omega
      have HCr := Lib.hid (HK.out.crow HC.out (by omega))
      obtain ⟨c0, c1, c2, c3, _⟩ := HCr.out.cells j (by simpa using hlt)
      have e1 : sl.toArray[j]! = sl[j]! := by simp
      rw [e1] at c0 c1 c2 c3
      have hxm : sl[j]! ∈ sl := by rw [getElem!_pos sl j hlt]; exact List.getElem_mem hlt
      have hX := HX.out _ hxm
      have HS2 := Lib.hid (fun pol => resL_succ M pol sl j hlt)
      have hll := fun pol => resL_len M pol sl j
      have lR := HR.out.blk.lt
      have r0 : wr.cell? ⟨w.heap.size + 1 + 1, 0, none⟩ = some (.int .i64 (resP sl j).kind) := by rw [HR.out.blk.cell]; rfl
      have r1 : wr.cell? ⟨w.heap.size + 1 + 1, 1, none⟩ = some (.int .i64 (resP sl j).idx) := by rw [HR.out.blk.cell]; rfl
      have r2 : wr.cell? ⟨w.heap.size + 1 + 1, 2, none⟩ = some (.int .i64 (resP sl j).rank) := by rw [HR.out.blk.cell]; rfl
      have r3 : wr.cell? ⟨w.heap.size + 1 + 1, 3, none⟩ = some (.string (resP sl j).id) := by rw [HR.out.blk.cell]; rfl
      have f0 := HR.out.blk.free 0
      have f1 := HR.out.blk.free 1
      have f2 := HR.out.blk.free 2
      have f3 := HR.out.blk.free 3
      have lg := HCr.out.lt
      by_cases hj0 : j = 0
      · subst hj0
        have HP2 := Lib.hid (show resP sl 1 = sl[0]! from rfl)
        have HRp := Lib.hid (fun o => (HR.out.principal sl[0]!).kept ((Kept.refl _).alloc o))
        have hzr : w.heap.size ≤ wr.heap.size := Nat.le_trans hk02.size HK.out.low.size
        have HKp := Lib.hid (fun o a b c d => ((((HK.out.setR (by omega) 0 a).setR (by omega) 1 b).setR (by omega) 2 c).setR (by omega) 3 d).trans (KI.of_kept ((Kept.refl _).alloc o) (by simpa using hzr)))
        generalize sl[0]! = x at *
        clear HS2 hll hX hxm e1 HCr HR HK
        go_wp2
        go_roundw
        case rel => exact ⟨1, v1, v2, v3, by omega, by go_num, (show ResSt _ _ _ _ _ _ _ _ _ _ from by rw [HP2.out, resL_one, resL_one, resL_one]; rw [resL_zero, resL_zero, resL_zero] at HRp; exact HRp.out _), HKp.out _ _ _ _ _⟩
        case measure => simp [intOf]; omega
      · have hj1 : 1 ≤ j := by omega
        have hjz : ((j : Int) == 0) = false := beq_false_of_ne (by omega)
        have HPe := Lib.hid (show resP sl (j + 1) = resP sl j from by unfold resP; rw [if_neg (by omega), if_neg hj0])
        have HRk := Lib.hid (fun w' (k : Kept wr w') => HR.out.kept k)
        have HKk := Lib.hid (fun w' (k : Kept wr w') => HK.out.trans (KI.of_kept k (Nat.le_trans hk02.size HK.out.low.size)))
        have HS3 := Lib.hid (fun pol => HS2.out pol hj1)
        generalize sl[j]! = x at *
        obtain ⟨xk, xi, xr, xs⟩ := x
        dsimp only at c0 c1 c2 c3 hX HS3
        by_cases hk2' : xk = 2
        · subst hk2'
          obtain ⟨hxi, hp1, hp2⟩ := hX rfl
          obtain ⟨b, off, ho', d0, d1, d2, _⟩ := (HM.out.kept hkw).cells xi hxi
          subst ho'
          have HPo := Lib.hid (show (M[xi]!).b = polOf M xi from rfl)
          rw [HPo.out] at d2
          have hxz : (xi : Int) < (M.length : Int) := by omega
          have hx0 : (0 : Int) ≤ (xi : Int) := by omega
          have bCr := HK.out.blk HbC.out (by omega) (by decide)
          have cC : wr.cell? ⟨w.heap.size, 2, none⟩ = some (.slice (some ⟨b, off, none⟩) M.length q') := by rw [bCr.cell]; rfl
          have lC := bCr.lt
          have lb := lt_cellL d0
          have HBp := Lib.hid (HK.out.blk Hbp.out (by omega) (by decide))
          have HMap := Lib.hid (HK.out.map HmapK.out (by omega))
          have lB := HMap.out.lt
          rcases (show polOf M xi = 2 ∨ polOf M xi = 3 ∨ polOf M xi = 1 by omega) with hpo | hpo | hpo
          · rw [hpo] at d2
            have hrun := pol_look (w := (wr.alloc (.cells #[.int .i64 2, .int .i64 xi, .int .i64 xr, .string xs] 166)).drew) (mapK HMap.out (((Kept.refl wr).alloc _).drew)) 2 (by decide)
            have hN : polN 2 = 209 := rfl
            rw [hN] at hrun
            have L1 := Lib.hid (show resL M 2 sl (j + 1) = resL M 2 sl j ++ [xi] from by rw [HS3.out, if_pos ⟨rfl, hpo⟩])
            have L2 := Lib.hid (show resL M 3 sl (j + 1) = resL M 3 sl j ++ [] from by rw [HS3.out, if_neg (fun h => absurd (hpo.symm.trans h.2) (by decide))])
            have L3 := Lib.hid (show resL M 1 sl (j + 1) = resL M 1 sl j ++ [] from by rw [HS3.out, if_neg (fun h => absurd (hpo.symm.trans h.2) (by decide))])
            have hlm := hll 2
            have KPo := Lib.hid (fun w' (k : Kept wr w') => pol1_st (HRk.out w' k) (HBp.out.kept k) xi (by omega) (by omega) (Nat.le_trans (Nat.le_trans hk02.size HK.out.low.size) k.size))
            clear HS3 HS2 hll hX hxm e1 HCr HR HMap
            go_wp2_with fail
            go_region_with (go_at_call 209; (with_reducible refine (KPo.out _ (by repeat (first | with_reducible exact Kept.refl _ | with_reducible refine Kept.drew ?_ | with_reducible refine Kept.alloc ?_ _))).mono ?_); rintro e w5 ⟨rfl, ⟨v', hst⟩, hki⟩)
            all_goals go_wp2
            all_goals go_roundw
            all_goals first
              | exact ⟨j + 1, v', v2, v3, by omega, by go_num, (show ResSt _ _ _ _ _ _ _ _ _ _ from by rw [HPe.out, L1.out, L2.out, L3.out]; simp only [List.append_nil]; exact hst), KI.trans (HKk.out _ (by repeat (first | with_reducible exact Kept.refl _ | with_reducible refine Kept.drew ?_ | with_reducible refine Kept.alloc ?_ _))) hki⟩
              | (simp [intOf]; omega)
          · rw [hpo] at d2
            have hrun := pol_look (w := (wr.alloc (.cells #[.int .i64 2, .int .i64 xi, .int .i64 xr, .string xs] 166)).drew) (mapK HMap.out (((Kept.refl wr).alloc _).drew)) 3 (by decide)
            have hN : polN 3 = 210 := rfl
            rw [hN] at hrun
            have L1 := Lib.hid (show resL M 2 sl (j + 1) = resL M 2 sl j ++ [] from by rw [HS3.out, if_neg (fun h => absurd (hpo.symm.trans h.2) (by decide))])
            have L2 := Lib.hid (show resL M 3 sl (j + 1) = resL M 3 sl j ++ [xi] from by rw [HS3.out, if_pos ⟨rfl, hpo⟩])
            have L3 := Lib.hid (show resL M 1 sl (j + 1) = resL M 1 sl j ++ [] from by rw [HS3.out, if_neg (fun h => absurd (hpo.symm.trans h.2) (by decide))])
            have hlm := hll 3
            have KPo := Lib.hid (fun w' (k : Kept wr w') => pol2_st (HRk.out w' k) (HBp.out.kept k) xi (by omega) (by omega) (Nat.le_trans (Nat.le_trans hk02.size HK.out.low.size) k.size))
            clear HS3 HS2 hll hX hxm e1 HCr HR HMap
            go_wp2_with fail
            go_region_with (go_at_call 210; (with_reducible refine (KPo.out _ (by repeat (first | with_reducible exact Kept.refl _ | with_reducible refine Kept.drew ?_ | with_reducible refine Kept.alloc ?_ _))).mono ?_); rintro e w5 ⟨rfl, ⟨v', hst⟩, hki⟩)
            all_goals go_wp2
            all_goals go_roundw
            all_goals first
              | exact ⟨j + 1, v1, v', v3, by omega, by go_num, (show ResSt _ _ _ _ _ _ _ _ _ _ from by rw [HPe.out, L1.out, L2.out, L3.out]; simp only [List.append_nil]; exact hst), KI.trans (HKk.out _ (by repeat (first | with_reducible exact Kept.refl _ | with_reducible refine Kept.drew ?_ | with_reducible refine Kept.alloc ?_ _))) hki⟩
              | (simp [intOf]; omega)
          · rw [hpo] at d2
            have hrun := pol_look (w := (wr.alloc (.cells #[.int .i64 2, .int .i64 xi, .int .i64 xr, .string xs] 166)).drew) (mapK HMap.out (((Kept.refl wr).alloc _).drew)) 1 (by decide)
            have hN : polN 1 = 211 := rfl
            rw [hN] at hrun
            have L1 := Lib.hid (show resL M 2 sl (j + 1) = resL M 2 sl j ++ [] from by rw [HS3.out, if_neg (fun h => absurd (hpo.symm.trans h.2) (by decide))])
            have L2 := Lib.hid (show resL M 3 sl (j + 1) = resL M 3 sl j ++ [] from by rw [HS3.out, if_neg (fun h => absurd (hpo.symm.trans h.2) (by decide))])
            have L3 := Lib.hid (show resL M 1 sl (j + 1) = resL M 1 sl j ++ [xi] from by rw [HS3.out, if_pos ⟨rfl, hpo⟩])
            have hlm := hll 1
            have KPo := Lib.hid (fun w' (k : Kept wr w') => pol3_st (HRk.out w' k) (HBp.out.kept k) xi (by omega) (by omega) (Nat.le_trans (Nat.le_trans hk02.size HK.out.low.size) k.size))
            clear HS3 HS2 hll hX hxm e1 HCr HR HMap
            go_wp2_with fail
            go_region_with (go_at_call 211; (with_reducible refine (KPo.out _ (by repeat (first | with_reducible exact Kept.refl _ | with_reducible refine Kept.drew ?_ | with_reducible refine Kept.alloc ?_ _))).mono ?_); rintro e w5 ⟨rfl, ⟨v', hst⟩, hki⟩)
            all_goals go_wp2
            all_goals go_roundw
            all_goals first
              | exact ⟨j + 1, v1, v2, v', by omega, by go_num, (show ResSt _ _ _ _ _ _ _ _ _ _ from by rw [HPe.out, L1.out, L2.out, L3.out]; simp only [List.append_nil]; exact hst), KI.trans (HKk.out _ (by repeat (first | with_reducible exact Kept.refl _ | with_reducible refine Kept.drew ?_ | with_reducible refine Kept.alloc ?_ _))) hki⟩
              | (simp [intOf]; omega)
        · have hkz : (xk == 2) = false := beq_false_of_ne hk2'
          have L1 := Lib.hid (fun pol => show resL M pol sl (j + 1) = resL M pol sl j from by rw [HS3.out, if_neg (fun h => hk2' h.1), List.append_nil])
          have HR2 := Lib.hid (fun o => HRk.out _ ((Kept.refl wr).alloc o))
          have HK2 := Lib.hid (fun o => HKk.out _ ((Kept.refl wr).alloc o))
          clear HS3 HS2 hll hX hxm e1 HCr HR HK
          go_wp2
          go_roundw
          case rel => exact ⟨j + 1, v1, v2, v3, by omega, by go_num, (show ResSt _ _ _ _ _ _ _ _ _ _ from by rw [HPe.out, L1.out, L1.out, L1.out]; exact HR2.out _), HK2.out _⟩
          case measure => simp [intOf]; omega
    · obtain rfl : j = sl.length := by omega
      have b4 := HK.out.blk Hb4.out (by omega) (by decide)
      have HR4 := Lib.hid b4
      have q0 : wr.cell? ⟨w.heap.size + 1, 0, none⟩ = some (.int .i64 0) := by rw [b4.cell]; rfl
      have q1 : wr.cell? ⟨w.heap.size + 1, 1, none⟩ = some (.int .i64 0) := by rw [b4.cell]; rfl
      have q2 : wr.cell? ⟨w.heap.size + 1, 2, none⟩ = some (.int .i64 0) := by rw [b4.cell]; rfl
      have q3 : wr.cell? ⟨w.heap.size + 1, 3, none⟩ = some (.string ⟨#[]⟩) := by rw [b4.cell]; rfl
      have q4 : wr.cell? ⟨w.heap.size + 1, 4, none⟩ = some (.slice none 0 0) := by rw [b4.cell]; rfl
      have q5 : wr.cell? ⟨w.heap.size + 1, 5, none⟩ = some (.slice none 0 0) := by rw [b4.cell]; rfl
      have q6 : wr.cell? ⟨w.heap.size + 1, 6, none⟩ = some (.slice none 0 0) := by rw [b4.cell]; rfl
      have g0 := b4.free 0
      have g1 := b4.free 1
      have g2 := b4.free 2
      have g3 := b4.free 3
      have g4 := b4.free 4
      have g5 := b4.free 5
      have g6 := b4.free 6
      have r0 : wr.cell? ⟨w.heap.size + 1 + 1, 0, none⟩ = some (.int .i64 (resP sl sl.length).kind) := by rw [HR.out.blk.cell]; rfl
      have r1 : wr.cell? ⟨w.heap.size + 1 + 1, 1, none⟩ = some (.int .i64 (resP sl sl.length).idx) := by rw [HR.out.blk.cell]; rfl
      have r2 : wr.cell? ⟨w.heap.size + 1 + 1, 2, none⟩ = some (.int .i64 (resP sl sl.length).rank) := by rw [HR.out.blk.cell]; rfl
      have r3 : wr.cell? ⟨w.heap.size + 1 + 1, 3, none⟩ = some (.string (resP sl sl.length).id) := by rw [HR.out.blk.cell]; rfl
      have r4 : wr.cell? ⟨w.heap.size + 1 + 1, 4, none⟩ = some v1 := by rw [HR.out.blk.cell]; rfl
      have r5 : wr.cell? ⟨w.heap.size + 1 + 1, 5, none⟩ = some v2 := by rw [HR.out.blk.cell]; rfl
      have r6 : wr.cell? ⟨w.heap.size + 1 + 1, 6, none⟩ = some v3 := by rw [HR.out.blk.cell]; rfl
      have l4 := b4.lt
      have l5 := HR.out.blk.lt
      have hkw : Kept w wr := Below.trans hk02 HK.out.low
      obtain ⟨o1, d1, rfl⟩ := owns_form HR.out.r1
      obtain ⟨o2, d2, rfl⟩ := owns_form HR.out.r2
      obtain ⟨o3, d3, rfl⟩ := owns_form HR.out.r3
      clear b4
      have HRr := Lib.hid HR.out
      go_wp2
      have B := ((((((HR4.out.set 0 (.int .i64 (resP sl sl.length).kind)).set 1 (.int .i64 (resP sl sl.length).idx)).set 2 (.int .i64 (resP sl sl.length).rank)).set 3 (.string (resP sl sl.length).id)).set 4 (.slice o1 (resL M 2 sl sl.length).length d1)).set 5 (.slice o2 (resL M 3 sl sl.length).length d2)).set 6 (.slice o3 (resL M 1 sl sl.length).length d3)
      have z0 := B.cell 0
      have z1 := B.cell 1
      have z2 := B.cell 2
      have z3 := B.cell 3
      have z4 := B.cell 4
      have z5 := B.cell 5
      have z6 := B.cell 6
      refine bodyPost_ret (v := resV (resP sl sl.length) (.slice o1 (resL M 2 sl sl.length).length d1) (.slice o2 (resL M 3 sl sl.length).length d2) (.slice o3 (resL M 1 sl sl.length).length d3)) (by simp [results, Tryz.results104, go_sem, z0, z1, z2, z3, z4, z5, z6]) rfl ?_
      refine ⟨_, _, _, rfl, owns_set7 HR4.out _ _ _ _ _ _ _ HRr.out.r1, owns_set7 HR4.out _ _ _ _ _ _ _ HRr.out.r2, owns_set7 HR4.out _ _ _ _ _ _ _ HRr.out.r3, ?_⟩
      exact Kept.setCell (Kept.setCell (Kept.setCell (Kept.setCell (Kept.setCell (Kept.setCell (Kept.setCell hkw (by simp) _) (by simp) _) (by simp) _) (by simp) _) (by simp) _) (by simp) _) (by simp) _
end Go.Proofs.YtblaphkaklocfaaGreatDoor

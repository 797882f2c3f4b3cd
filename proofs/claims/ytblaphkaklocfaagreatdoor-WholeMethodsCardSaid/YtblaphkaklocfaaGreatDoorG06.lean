/- Contracts and plain lemmas: Epact, RefE. -/
import Derived.Test.YtblaphkaklocfaaGreatDoorG05
import Derived.Maps.OwnSet
import Derived.Outline
set_option linter.unusedSimpArgs false
set_option linter.unusedVariables false
set_option linter.unusedSectionVars false
/- Contracts: package epact: julian, gregorian, formulas, Of, Label. -/
namespace Go.Proofs.YtblaphkaklocfaaGreatDoor
open Go.ChangeShapes Go.WideShapes Go.ChangeAt Go.RowKit Go.Maps Go.ChangeMaps Go.MapKept
set_option maxHeartbeats 800000
set_option maxRecDepth 20000

theorem eJul_ok (y : Int) (w : World) (h : 1 ≤ y) (h' : y ≤ 1000000000) :
    Calls Tryz.prog 268 #[.int .i64 y] w fun e w' => e = .returned (.tuple #[.int .i64 (epR 1 y), .int .i64 0]) ∧ Kept w w' := by
  have hg : 1 ≤ glN y ∧ glN y ≤ 19 := by unfold glN; omega
  have he : epR 1 y = 11 * glN y - 3 := if_pos rfl
  have KG := Lib.hid (fun w => Golden_ok y w h h')
  rw [he]
  generalize glN y = g at *
  clear he
  go_enter Tryz.func268, Tryz.ntmps268
  go_wp2_with (go_at_call 194; (with_reducible refine (KG.out _).mono ?_); rintro e w1 ⟨rfl, hk1⟩)
  go_ret2
  exact ⟨rfl, (by repeat (first | with_reducible exact Kept.refl _ | with_reducible assumption | with_reducible refine Kept.drew ?_ | with_reducible refine Kept.drewN ?_ _ | with_reducible refine Kept.alloc ?_ _ | (with_reducible refine Kept.setCell ?_ (by first | exact Nat.le_refl _ | omega | (simp; done) | (simp; omega)) _) | (with_reducible refine Kept.trans ?_ (by with_reducible assumption))))⟩
theorem eJul_no (y : Int) (w : World) (h : y < 1 ∨ 1000000000 < y) :
    Calls Tryz.prog 268 #[.int .i64 y] w fun e w' => ∃ n, e = .returned (.tuple #[.int .i64 n, .int .i64 1]) ∧ Kept w w' := by
  have KG := Lib.hid (fun w => Golden_no y w h)
  clear h
  go_enter Tryz.func268, Tryz.ntmps268
  go_wp2_with (go_at_call 194; (with_reducible refine (KG.out _).mono ?_); rintro e w1 ⟨rfl, hk1⟩)
  go_ret2
  exact ⟨_, rfl, (by repeat (first | with_reducible exact Kept.refl _ | with_reducible assumption | with_reducible refine Kept.drew ?_ | with_reducible refine Kept.drewN ?_ _ | with_reducible refine Kept.alloc ?_ _ | (with_reducible refine Kept.setCell ?_ (by first | exact Nat.le_refl _ | omega | (simp; done) | (simp; omega)) _) | (with_reducible refine Kept.trans ?_ (by with_reducible assumption))))⟩
theorem eGreg_ok (y : Int) (w : World) (h : 1583 ≤ y) (h' : y ≤ 1000000000) :
    Calls Tryz.prog 269 #[.int .i64 y] w fun e w' => e = .returned (.tuple #[.int .i64 (epR 2 y), .int .i64 0]) ∧ Kept w w' := by
  have hg : 1 ≤ glN y ∧ glN y ≤ 19 := by unfold glN; omega
  have hs : -100 ≤ soN y ∧ soN y ≤ 100000000 := by unfold soN; omega
  have hl : -100 ≤ luN y ∧ luN y ≤ 100000000 := by unfold luN; omega
  have he : epR 2 y = 11 * glN y + 20 + luN y - soN y := if_neg (by decide)
  have KG := Lib.hid (fun w => Golden_ok y w (by omega) h')
  have KS := Lib.hid (fun w => Solar_ok y w h h')
  have KL := Lib.hid (fun w => Lunar_ok y w h h')
  rw [he]
  generalize glN y = g at *
  generalize soN y = s at *
  generalize luN y = l at *
  clear he
  go_enter Tryz.func269, Tryz.ntmps269
  go_wp2_with first | (go_at_call 194; (with_reducible refine (KG.out _).mono ?_); rintro e w1 ⟨rfl, hk1⟩) | (go_at_call 280; (with_reducible refine (KS.out _).mono ?_); rintro e w1 ⟨rfl, hk1⟩) | (go_at_call 281; (with_reducible refine (KL.out _).mono ?_); rintro e w1 ⟨rfl, hk1⟩)
  go_ret2
  exact ⟨rfl, (by repeat (first | with_reducible exact Kept.refl _ | with_reducible assumption | with_reducible refine Kept.drew ?_ | with_reducible refine Kept.drewN ?_ _ | with_reducible refine Kept.alloc ?_ _ | (with_reducible refine Kept.setCell ?_ (by first | exact Nat.le_refl _ | omega | (simp; done) | (simp; omega)) _) | (with_reducible refine Kept.trans ?_ (by with_reducible assumption))))⟩
theorem Golden_some (y : Int) (w : World) : Calls Tryz.prog 194 #[.int .i64 y] w fun e w' => ∃ g x, (0 ≤ g ∧ g ≤ 19) ∧ e = .returned (.tuple #[.int .i64 g, .int .i64 x]) ∧ Kept w w' := by
  by_cases h : y < 1 ∨ 1000000000 < y
  · exact (Golden_no y w h).mono fun e w' hh => ⟨_, _, by omega, hh⟩
  · exact (Golden_ok y w (by omega) (by omega)).mono fun e w' hh => ⟨_, _, by unfold glN; omega, hh⟩
theorem eGreg_no (y : Int) (w : World) (h : y < 1583 ∨ 1000000000 < y) :
    Calls Tryz.prog 269 #[.int .i64 y] w fun e w' => ∃ n, e = .returned (.tuple #[.int .i64 n, .int .i64 1]) ∧ Kept w w' := by
  have KG := Lib.hid (fun w => Golden_some y w)
  have KS := Lib.hid (fun w => Solar_no y w h)
  have KL := Lib.hid (fun w => Lunar_no y w h)
  clear h
  go_enter Tryz.func269, Tryz.ntmps269
  go_wp2_with fail
  go_at_call 194
  refine (KG.out _).mono ?_
  rintro e w1 ⟨g, x, hg, rfl, k1⟩
  go_wp2_with first | (go_at_call 280; (with_reducible refine (KS.out _).mono ?_); rintro e w1 ⟨rfl, hk1⟩) | (go_at_call 281; (with_reducible refine (KL.out _).mono ?_); rintro e w2 ⟨rfl, hk2⟩)
  go_ret2
  exact ⟨_, rfl, (by repeat (first | with_reducible exact Kept.refl _ | with_reducible assumption | with_reducible refine Kept.drew ?_ | with_reducible refine Kept.drewN ?_ _ | with_reducible refine Kept.alloc ?_ _ | (with_reducible refine Kept.setCell ?_ (by first | exact Nat.le_refl _ | omega | (simp; done) | (simp; omega)) _) | (with_reducible refine Kept.trans ?_ (by with_reducible assumption))))⟩

/-- How a function of the table reads. -/
def fnElem (v : Value) : Option (DataW Unit × List MemPlace) :=
  match v with
  | .func (.func n) a b => if a.size = 0 ∧ b.size = 0 then some (.lit (.int .i64 n), []) else none
  | .nilFunc => some (.lit (.int .i64 (-1)), [])
  | _ => none
theorem fnElem_inv {v : Value} {n : Nat} {ps : List MemPlace} (h : fnElem v = some (.lit (.int .i64 n), ps)) : v = .func (.func n) #[] #[] := by
  match v, h with
  | .func (.func n1) a b, h =>
    unfold fnElem at h
    by_cases hab : a.size = 0 ∧ b.size = 0
    · simp only [if_pos hab, Option.some.injEq, Prod.mk.injEq, DataW.lit.injEq, Lit.int.injEq, true_and] at h
      have ea : a = #[] := Array.eq_empty_of_size_eq_zero hab.1
      have eb : b = #[] := Array.eq_empty_of_size_eq_zero hab.2
      have en : n1 = n := Int.ofNat.inj h.1
      rw [ea, eb, en]
    · simp only [if_neg hab] at h
      cases h
  | .nilFunc, h =>
    unfold fnElem at h
    simp only [Option.some.injEq, Prod.mk.injEq, DataW.lit.injEq, Lit.int.injEq, true_and] at h
    have := h.1
    omega
def forms : DataW Unit := ((DataW.map []).put (.int .i64 1) (.lit (.int .i64 268))).put (.int .i64 2) (.lit (.int .i64 269))
theorem under_m : Tryz.prog.underlying 284 = some (.map 3 154) := by kernel_rfl
theorem law_i : Keyed Tryz.prog 3 := int_keyed Tryz.underlying3
theorem zero_f (w : World) : (zeroValue 154).run Tryz.prog w = .ok .nilFunc w := by kernel_rfl
theorem formulas_of (w : World) :
    Calls Tryz.prog 242 #[] w fun e w' => e = .returned (.map (some w.heap.size)) ∧ w'.ownsMap Tryz.prog 3 fnElem w.heap.size 2 forms ∧ Kept w w' := by
  have hmm := @run_makeMap Tryz.prog
  have hown0 := World.ownsMap_made w Tryz.prog 3 fnElem
  have hb0 : Kept w (w.alloc (.map #[] 0)) := (Kept.refl w).alloc _
  go_enter Tryz.func242, Tryz.ntmps242
  go_wp2_with fail
  obtain ⟨wa, hra, hown1, hga⟩ := hown0.update (t := 284) (e := 154) law_i under_m (by unfold maxLen; omega) (keyOf_int_mk Tryz.underlying3 (a := 1) (by decide)) (val := .func (.func 268) #[] #[]) (d := .lit (.int .i64 268)) (ps := []) rfl
  have hba : Kept w wa := Below.grown hb0 hga (by simp) (fun j hj => by cases hj; exact Nat.le_refl _)
  rw [hra]
  go_wp2_with fail
  obtain ⟨wb, hrb, hown2, hgb⟩ := hown1.update (t := 284) (e := 154) law_i under_m (by unfold maxLen; omega) (keyOf_int_mk Tryz.underlying3 (a := 2) (by decide)) (val := .func (.func 269) #[] #[]) (d := .lit (.int .i64 269)) (ps := []) rfl
  have hbb : Kept w wb := Below.grown hba hgb hba.size (fun j hj => by cases hj; exact Nat.le_refl _)
  rw [hrb]
  go_wp2_with fail
  go_ret
  exact ⟨rfl, hown2, hbb⟩

instance (k y : Int) : Decidable (Fit k y) := by unfold Fit; infer_instance
/-- The error of a calendar and a year. -/
def flE (k y : Int) : Int := if k < 1 ∨ 2 < k then 3 else if Fit k y then 0 else 1
theorem fl_cases (k y : Int) : (Fit k y ∧ flE k y = 0) ∨ (Off k y ∧ flE k y = 1) ∨ ((k < 1 ∨ 2 < k) ∧ flE k y = 3) := by
  unfold flE
  by_cases h : k < 1 ∨ 2 < k
  · rw [if_pos h]; exact .inr (.inr ⟨h, rfl⟩)
  · rw [if_neg h]
    by_cases g : Fit k y
    · rw [if_pos g]; exact .inl ⟨g, rfl⟩
    · rw [if_neg g]
      rcases three_ways k y with a | a | a
      · exact absurd a h
      · exact .inr (.inl ⟨a, rfl⟩)
      · exact absurd a g
theorem Fails_any (k y : Int) (w : World) :
    Calls Tryz.prog 9 #[.int .i64 k, .int .i64 y] w fun e w' => e = .returned (.int .i64 (flE k y)) ∧ w = w' := by
  rcases fl_cases k y with ⟨h, e⟩ | ⟨h, e⟩ | ⟨h, e⟩
  · rw [e]; exact Fails_ok k y w h
  · rw [e]; exact Fails_off k y w h
  · rw [e]; exact Fails_arg k y w h
theorem ep_arith (n : Int) (h1 : -1000000000 ≤ n) (h2 : n ≤ 1000000000) : wrap64 ((wrap64 ((n - 1).tmod 30 + 30)).tmod 30 + 1) = (n - 1) % 30 + 1 := by
  have hb : -30 < (n - 1).tmod 30 ∧ (n - 1).tmod 30 < 30 ∧ ((n - 1).tmod 30 = (n - 1) % 30 ∨ (n - 1).tmod 30 + 30 = (n - 1) % 30) := by
    by_cases h : 0 ≤ n - 1
    · rw [Int.tmod_eq_emod_of_nonneg h]; omega
    · have a := tmod_neg_bounds (n - 1) 30 (by omega) (by omega)
      have b := tmod_eq (n - 1) 30 (by omega) (by omega)
      by_cases hz : (n - 1).tmod 30 = 0
      · have := b.1 hz; omega
      · have := b.2 hz; omega
  generalize (n - 1).tmod 30 = t at *
  have e1 : wrap64 (t + 30) = t + 30 := by unfold wrap64; omega
  rw [e1, Int.tmod_eq_emod_of_nonneg (by omega)]
  have e2 : wrap64 ((t + 30) % 30 + 1) = (t + 30) % 30 + 1 := by unfold wrap64; omega
  rw [e2]
  omega
theorem EOf_J (y n x : Int) (w : World) (hc : ∀ w, Calls Tryz.prog 268 #[.int .i64 y] w fun e w' => e = .returned (.tuple #[.int .i64 n, .int .i64 x]) ∧ Kept w w') (hn : x = 0 → -1000000000 ≤ n ∧ n ≤ 1000000000) (hx : x = 0 ∨ x = 1) :
    Calls Tryz.prog 193 #[.int .i64 1, .int .i64 y] w fun e w' => e = .returned (.tuple #[.int .i64 (if x = 0 then (n - 1) % 30 + 1 else 0), .int .i64 x]) ∧ Kept w w' := by
  have KF := Lib.hid (fun w => formulas_of w)
  have KC := Lib.hid hc
  have e1 : forms.atKey (.int .i64 1) (.lit (.int .i64 (-1))) = .lit (.int .i64 268) := by kernel_rfl
  have e2 : Maps.has forms (.int .i64 1) = true := by kernel_rfl
  clear hc
  go_enter Tryz.func193, Tryz.ntmps193
  go_wp2_with fail
  go_at_call 242
  refine (KF.out _).mono ?_
  rintro e w1 ⟨rfl, hown, k1⟩
  go_wp2_with fail
  obtain ⟨v, ps, hrun, hv⟩ := hown.look_ok (t := 284) law_i under_m (zero_f _) (zd := .lit (.int .i64 (-1))) (zp := []) rfl (keyOf_int_mk Tryz.underlying3 (a := 1) (by decide))
  rw [hrun]
  rw [e1] at hv
  obtain rfl := fnElem_inv hv
  rw [e2]
  rcases hx with rfl | rfl
  · obtain ⟨n1, n2⟩ := hn rfl
    go_wp2_with (go_at_call 268; (with_reducible refine (KC.out _).mono ?_); rintro e w1 ⟨rfl, hk1⟩)
    go_ret2
    exact ⟨by rw [← ep_arith n n1 n2]; rfl, (by repeat (first | with_reducible exact Kept.refl _ | with_reducible assumption | with_reducible refine Kept.drew ?_ | with_reducible refine Kept.drewN ?_ _ | with_reducible refine Kept.alloc ?_ _ | (with_reducible refine Kept.setCell ?_ (by first | exact Nat.le_refl _ | omega | (simp; done) | (simp; omega)) _) | (with_reducible refine Kept.trans ?_ (by with_reducible assumption))))⟩
  · go_wp2_with (go_at_call 268; (with_reducible refine (KC.out _).mono ?_); rintro e w1 ⟨rfl, hk1⟩)
    go_ret2
    exact ⟨rfl, (by repeat (first | with_reducible exact Kept.refl _ | with_reducible assumption | with_reducible refine Kept.drew ?_ | with_reducible refine Kept.drewN ?_ _ | with_reducible refine Kept.alloc ?_ _ | (with_reducible refine Kept.setCell ?_ (by first | exact Nat.le_refl _ | omega | (simp; done) | (simp; omega)) _) | (with_reducible refine Kept.trans ?_ (by with_reducible assumption))))⟩
theorem EOf_G (y n x : Int) (w : World) (hc : ∀ w, Calls Tryz.prog 269 #[.int .i64 y] w fun e w' => e = .returned (.tuple #[.int .i64 n, .int .i64 x]) ∧ Kept w w') (hn : x = 0 → -1000000000 ≤ n ∧ n ≤ 1000000000) (hx : x = 0 ∨ x = 1) :
    Calls Tryz.prog 193 #[.int .i64 2, .int .i64 y] w fun e w' => e = .returned (.tuple #[.int .i64 (if x = 0 then (n - 1) % 30 + 1 else 0), .int .i64 x]) ∧ Kept w w' := by
  have KF := Lib.hid (fun w => formulas_of w)
  have KC := Lib.hid hc
  have e1 : forms.atKey (.int .i64 2) (.lit (.int .i64 (-1))) = .lit (.int .i64 269) := by kernel_rfl
  have e2 : Maps.has forms (.int .i64 2) = true := by kernel_rfl
  clear hc
  go_enter Tryz.func193, Tryz.ntmps193
  go_wp2_with fail
  go_at_call 242
  refine (KF.out _).mono ?_
  rintro e w1 ⟨rfl, hown, k1⟩
  go_wp2_with fail
  obtain ⟨v, ps, hrun, hv⟩ := hown.look_ok (t := 284) law_i under_m (zero_f _) (zd := .lit (.int .i64 (-1))) (zp := []) rfl (keyOf_int_mk Tryz.underlying3 (a := 2) (by decide))
  rw [hrun]
  rw [e1] at hv
  obtain rfl := fnElem_inv hv
  rw [e2]
  rcases hx with rfl | rfl
  · obtain ⟨n1, n2⟩ := hn rfl
    go_wp2_with (go_at_call 269; (with_reducible refine (KC.out _).mono ?_); rintro e w1 ⟨rfl, hk1⟩)
    go_ret2
    exact ⟨by rw [← ep_arith n n1 n2]; rfl, (by repeat (first | with_reducible exact Kept.refl _ | with_reducible assumption | with_reducible refine Kept.drew ?_ | with_reducible refine Kept.drewN ?_ _ | with_reducible refine Kept.alloc ?_ _ | (with_reducible refine Kept.setCell ?_ (by first | exact Nat.le_refl _ | omega | (simp; done) | (simp; omega)) _) | (with_reducible refine Kept.trans ?_ (by with_reducible assumption))))⟩
  · go_wp2_with (go_at_call 269; (with_reducible refine (KC.out _).mono ?_); rintro e w1 ⟨rfl, hk1⟩)
    go_ret2
    exact ⟨rfl, (by repeat (first | with_reducible exact Kept.refl _ | with_reducible assumption | with_reducible refine Kept.drew ?_ | with_reducible refine Kept.drewN ?_ _ | with_reducible refine Kept.alloc ?_ _ | (with_reducible refine Kept.setCell ?_ (by first | exact Nat.le_refl _ | omega | (simp; done) | (simp; omega)) _) | (with_reducible refine Kept.trans ?_ (by with_reducible assumption))))⟩
theorem EOf_J' (y : Int) (w : World) (hc : ∀ w, Calls Tryz.prog 268 #[.int .i64 y] w fun e w' => ∃ n, e = .returned (.tuple #[.int .i64 n, .int .i64 1]) ∧ Kept w w') :
    Calls Tryz.prog 193 #[.int .i64 1, .int .i64 y] w fun e w' => e = .returned (.tuple #[.int .i64 0, .int .i64 1]) ∧ Kept w w' := by
  have KF := Lib.hid (fun w => formulas_of w)
  have KC := Lib.hid hc
  have e1 : forms.atKey (.int .i64 1) (.lit (.int .i64 (-1))) = .lit (.int .i64 268) := by kernel_rfl
  have e2 : Maps.has forms (.int .i64 1) = true := by kernel_rfl
  clear hc
  go_enter Tryz.func193, Tryz.ntmps193
  go_wp2_with fail
  go_at_call 242
  refine (KF.out _).mono ?_
  rintro e w1 ⟨rfl, hown, k1⟩
  go_wp2_with fail
  obtain ⟨v, ps, hrun, hv⟩ := hown.look_ok (t := 284) law_i under_m (zero_f _) (zd := .lit (.int .i64 (-1))) (zp := []) rfl (keyOf_int_mk Tryz.underlying3 (a := 1) (by decide))
  rw [hrun]
  rw [e1] at hv
  obtain rfl := fnElem_inv hv
  rw [e2]
  go_wp2_with fail
  go_at_call 268
  refine (KC.out _).mono ?_
  rintro e w2 ⟨n, rfl, hk2⟩
  go_wp2
  go_ret2
  exact ⟨rfl, (by repeat (first | with_reducible exact Kept.refl _ | with_reducible assumption | with_reducible refine Kept.drew ?_ | with_reducible refine Kept.drewN ?_ _ | with_reducible refine Kept.alloc ?_ _ | (with_reducible refine Kept.setCell ?_ (by first | exact Nat.le_refl _ | omega | (simp; done) | (simp; omega)) _) | (with_reducible refine Kept.trans ?_ (by with_reducible assumption))))⟩
theorem EOf_G' (y : Int) (w : World) (hc : ∀ w, Calls Tryz.prog 269 #[.int .i64 y] w fun e w' => ∃ n, e = .returned (.tuple #[.int .i64 n, .int .i64 1]) ∧ Kept w w') :
    Calls Tryz.prog 193 #[.int .i64 2, .int .i64 y] w fun e w' => e = .returned (.tuple #[.int .i64 0, .int .i64 1]) ∧ Kept w w' := by
  have KF := Lib.hid (fun w => formulas_of w)
  have KC := Lib.hid hc
  have e1 : forms.atKey (.int .i64 2) (.lit (.int .i64 (-1))) = .lit (.int .i64 269) := by kernel_rfl
  have e2 : Maps.has forms (.int .i64 2) = true := by kernel_rfl
  clear hc
  go_enter Tryz.func193, Tryz.ntmps193
  go_wp2_with fail
  go_at_call 242
  refine (KF.out _).mono ?_
  rintro e w1 ⟨rfl, hown, k1⟩
  go_wp2_with fail
  obtain ⟨v, ps, hrun, hv⟩ := hown.look_ok (t := 284) law_i under_m (zero_f _) (zd := .lit (.int .i64 (-1))) (zp := []) rfl (keyOf_int_mk Tryz.underlying3 (a := 2) (by decide))
  rw [hrun]
  rw [e1] at hv
  obtain rfl := fnElem_inv hv
  rw [e2]
  go_wp2_with fail
  go_at_call 269
  refine (KC.out _).mono ?_
  rintro e w2 ⟨n, rfl, hk2⟩
  go_wp2
  go_ret2
  exact ⟨rfl, (by repeat (first | with_reducible exact Kept.refl _ | with_reducible assumption | with_reducible refine Kept.drew ?_ | with_reducible refine Kept.drewN ?_ _ | with_reducible refine Kept.alloc ?_ _ | (with_reducible refine Kept.setCell ?_ (by first | exact Nat.le_refl _ | omega | (simp; done) | (simp; omega)) _) | (with_reducible refine Kept.trans ?_ (by with_reducible assumption))))⟩
theorem EOf_arg (c y : Int) (w : World) (h : c < 1 ∨ 2 < c) (hb : -9223372036854775808 ≤ c ∧ c ≤ 9223372036854775807) :
    Calls Tryz.prog 193 #[.int .i64 c, .int .i64 y] w fun e w' => e = .returned (.tuple #[.int .i64 0, .int .i64 3]) ∧ Kept w w' := by
  have KF := Lib.hid (fun w => formulas_of w)
  have e0 : forms = .map [(.int .i64 1, .lit (.int .i64 268)), (.int .i64 2, .lit (.int .i64 269))] := by kernel_rfl
  have e1 : forms.atKey (.int .i64 c) (.lit (.int .i64 (-1))) = .lit (.int .i64 (-1)) := by
    rw [e0]
    have a1 : ¬ 1 = c := by omega
    have a2 : ¬ 2 = c := by omega
    simp [DataW.atKey, Lit.sameKey, a1, a2]
  have e2 : Maps.has forms (.int .i64 c) = false := by
    rw [e0]
    have a1 : ¬ 1 = c := by omega
    have a2 : ¬ 2 = c := by omega
    simp [Maps.has, Lit.sameKey, a1, a2]
  have e3 : (Lit.int .i64 c).wf = true := by
    have m1 : IntKind.i64.min = -9223372036854775808 := by decide
    have m2 : IntKind.i64.max = 9223372036854775807 := by decide
    simp [Lit.wf]
    omega
  clear h hb
  go_enter Tryz.func193, Tryz.ntmps193
  go_wp2_with fail
  go_at_call 242
  refine (KF.out _).mono ?_
  rintro e w1 ⟨rfl, hown, k1⟩
  go_wp2_with fail
  obtain ⟨v, ps, hrun, hv⟩ := hown.look_ok (t := 284) law_i under_m (zero_f _) (zd := .lit (.int .i64 (-1))) (zp := []) rfl (keyOf_int_mk Tryz.underlying3 (a := c) e3)
  rw [hrun]
  rw [e1] at hv
  rw [e2]
  go_wp2
  go_ret2
  exact ⟨rfl, (by repeat (first | with_reducible exact Kept.refl _ | with_reducible assumption | with_reducible refine Kept.drew ?_ | with_reducible refine Kept.drewN ?_ _ | with_reducible refine Kept.alloc ?_ _ | (with_reducible refine Kept.setCell ?_ (by first | exact Nat.le_refl _ | omega | (simp; done) | (simp; omega)) _) | (with_reducible refine Kept.trans ?_ (by with_reducible assumption))))⟩
def Sm (c : Int) : Prop := -9223372036854775808 ≤ c ∧ c ≤ 9223372036854775807
theorem ELabel_any (c y : Int) (w : World) (hc : Sm c) :
    Calls Tryz.prog 139 #[.int .i64 c, .int .i64 y] w fun e w' => e = .returned (.tuple #[.int .i64 (if flE c y = 0 then labN c y else 0), .int .i64 (flE c y)]) ∧ Kept w w' := by
  rcases fl_cases c y with ⟨hf, e0⟩ | ⟨hf, e0⟩ | ⟨hf, e0⟩
  · rw [e0, if_pos rfl]
    have hy : 1 ≤ y ∧ y ≤ 1000000000 := by unfold Fit at hf; omega
    have KO : Hid (∀ w, Calls Tryz.prog 193 #[.int .i64 c, .int .i64 y] w fun e w' => e = .returned (.tuple #[.int .i64 (epN c y), .int .i64 0]) ∧ Kept w w') := (show ∀ w, _ from fun w => by
      have hg : 1 ≤ glN y ∧ glN y ≤ 19 := by unfold glN; omega
      have hs : -100 ≤ soN y ∧ soN y ≤ 100000000 := by unfold soN; omega
      have hl : -100 ≤ luN y ∧ luN y ≤ 100000000 := by unfold luN; omega
      rcases hf with ⟨⟨rfl, h1⟩ | ⟨rfl, h1⟩, h2⟩
      · have := EOf_J y (epR 1 y) 0 w (fun w => eJul_ok y w h1 h2) (fun _ => by unfold epR; rw [if_pos rfl]; omega) (.inl rfl)
        rw [if_pos rfl] at this
        exact this
      · have := EOf_G y (epR 2 y) 0 w (fun w => eGreg_ok y w h1 h2) (fun _ => by unfold epR; rw [if_neg (by decide)]; omega) (.inl rfl)
        rw [if_pos rfl] at this
        exact this)
    have KG := Lib.hid (fun w => Golden_ok y w hy.1 hy.2)
    have hg : 1 ≤ glN y ∧ glN y ≤ 19 := by unfold glN; omega
    have hE := epN_bounds c y
    clear hf e0 hy hc
    unfold labN
    generalize glN y = g at *
    generalize epN c y = e at *
    by_cases h1 : e = 25
    · subst h1
      by_cases h2 : 11 < g
      · rw [if_pos ⟨rfl, h2⟩]
        go_enter Tryz.func139, Tryz.ntmps139
        go_wp2_with first | (go_at_call 193; (with_reducible refine (KO.out _).mono ?_); rintro e w1 ⟨rfl, hk1⟩) | (go_at_call 194; (with_reducible refine (KG.out _).mono ?_); rintro e w2 ⟨rfl, hk2⟩)
        go_ret2
        exact ⟨rfl, (by repeat (first | with_reducible exact Kept.refl _ | with_reducible assumption | with_reducible refine Kept.drew ?_ | with_reducible refine Kept.drewN ?_ _ | with_reducible refine Kept.alloc ?_ _ | (with_reducible refine Kept.setCell ?_ (by first | exact Nat.le_refl _ | omega | (simp; done) | (simp; omega)) _) | (with_reducible refine Kept.trans ?_ (by with_reducible assumption))))⟩
      · rw [if_neg (fun g => h2 g.2)]
        go_enter Tryz.func139, Tryz.ntmps139
        go_wp2_with first | (go_at_call 193; (with_reducible refine (KO.out _).mono ?_); rintro e w1 ⟨rfl, hk1⟩) | (go_at_call 194; (with_reducible refine (KG.out _).mono ?_); rintro e w2 ⟨rfl, hk2⟩)
        go_ret2
        exact ⟨rfl, (by repeat (first | with_reducible exact Kept.refl _ | with_reducible assumption | with_reducible refine Kept.drew ?_ | with_reducible refine Kept.drewN ?_ _ | with_reducible refine Kept.alloc ?_ _ | (with_reducible refine Kept.setCell ?_ (by first | exact Nat.le_refl _ | omega | (simp; done) | (simp; omega)) _) | (with_reducible refine Kept.trans ?_ (by with_reducible assumption))))⟩
    · rw [if_neg (fun g => h1 g.1)]
      go_enter Tryz.func139, Tryz.ntmps139
      go_wp2_with first | (go_at_call 193; (with_reducible refine (KO.out _).mono ?_); rintro e w1 ⟨rfl, hk1⟩) | (go_at_call 194; (with_reducible refine (KG.out _).mono ?_); rintro e w2 ⟨rfl, hk2⟩)
      go_ret2
      exact ⟨rfl, (by repeat (first | with_reducible exact Kept.refl _ | with_reducible assumption | with_reducible refine Kept.drew ?_ | with_reducible refine Kept.drewN ?_ _ | with_reducible refine Kept.alloc ?_ _ | (with_reducible refine Kept.setCell ?_ (by first | exact Nat.le_refl _ | omega | (simp; done) | (simp; omega)) _) | (with_reducible refine Kept.trans ?_ (by with_reducible assumption))))⟩
  all_goals
    rw [e0, if_neg (by decide)]
  · have KO : Hid (∀ w, Calls Tryz.prog 193 #[.int .i64 c, .int .i64 y] w fun e w' => e = .returned (.tuple #[.int .i64 0, .int .i64 1]) ∧ Kept w w') := (show ∀ w, _ from fun w => by
      rcases hf with ⟨rfl, h1⟩ | ⟨rfl, h1⟩
      · exact EOf_J' y w (fun w => eJul_no y w h1)
      · exact EOf_G' y w (fun w => eGreg_no y w h1))
    clear hf e0 hc
    go_enter Tryz.func139, Tryz.ntmps139
    go_wp2_with (go_at_call 193; (with_reducible refine (KO.out _).mono ?_); rintro e w1 ⟨rfl, hk1⟩)
    go_ret2
    exact ⟨rfl, (by repeat (first | with_reducible exact Kept.refl _ | with_reducible assumption | with_reducible refine Kept.drew ?_ | with_reducible refine Kept.drewN ?_ _ | with_reducible refine Kept.alloc ?_ _ | (with_reducible refine Kept.setCell ?_ (by first | exact Nat.le_refl _ | omega | (simp; done) | (simp; omega)) _) | (with_reducible refine Kept.trans ?_ (by with_reducible assumption))))⟩
  · have KO := Lib.hid (fun w => EOf_arg c y w hf hc)
    clear hf e0 hc
    go_enter Tryz.func139, Tryz.ntmps139
    go_wp2_with (go_at_call 193; (with_reducible refine (KO.out _).mono ?_); rintro e w1 ⟨rfl, hk1⟩)
    go_ret2
    exact ⟨rfl, (by repeat (first | with_reducible exact Kept.refl _ | with_reducible assumption | with_reducible refine Kept.drew ?_ | with_reducible refine Kept.drewN ?_ _ | with_reducible refine Kept.alloc ?_ _ | (with_reducible refine Kept.setCell ?_ (by first | exact Nat.le_refl _ | omega | (simp; done) | (simp; omega)) _) | (with_reducible refine Kept.trans ?_ (by with_reducible assumption))))⟩
end Go.Proofs.YtblaphkaklocfaaGreatDoor
/- Contracts: reference 07: Of, Label. -/
namespace Go.Proofs.YtblaphkaklocfaaGreatDoor
open Go.ChangeShapes Go.WideShapes Go.ChangeAt Go.RowKit
set_option maxHeartbeats 800000

theorem rEOf_ok (k y : Int) (w : World) (h : Fit k y) :
    Calls Tryz.prog 83 #[.int .i64 k, .int .i64 y] w fun e w' => e = .returned (.int .i64 (epN k y)) ∧ w = w' := by
  have hy : 1 ≤ y ∧ y ≤ 1000000000 := by unfold Fit at h; omega
  have hg : 1 ≤ glN y ∧ glN y ≤ 19 := by unfold glN; omega
  have hs : -100 ≤ soN y ∧ soN y ≤ 100000000 := by unfold soN; omega
  have hl : -100 ≤ luN y ∧ luN y ≤ 100000000 := by unfold luN; omega
  have KG := Lib.hid (fun w => rGolden_ok y w hy.1 hy.2)
  have KS := Lib.hid (fun w => rSolar_ok y w hy.1 hy.2)
  have KL := Lib.hid (fun w => rLunar_ok y w hy.1 hy.2)
  have KM := Lib.hid (fun n w a b => Mod_any n 30 w a b (by omega) (by omega))
  rcases h with ⟨⟨rfl, h1⟩ | ⟨rfl, h1⟩, h2⟩
  · have he : epN 1 y = (11 * glN y - 3 - 1) % 30 + 1 := by unfold epN epR; rw [if_pos rfl]
    rw [he]
    generalize glN y = g at *
    clear he hs hl KS KL
    by_cases hz : (11 * g - 3) % 30 = 0
    · have hv : (11 * g - 3 - 1) % 30 + 1 = 30 := by omega
      rw [hv]
      clear hv
      go_enter Tryz.func83, Tryz.ntmps83
      go_wp2_with first | (go_at_call 84; (with_reducible refine (KG.out _).mono ?_); rintro e w1 ⟨rfl, rfl⟩) | (go_at_call 51; (with_reducible refine (KM.out _ _ (by omega) (by omega)).mono ?_); rintro e w1 ⟨rfl, rfl⟩)
      go_ret
      exact ⟨rfl, rfl⟩
    · have hv : (11 * g - 3 - 1) % 30 + 1 = (11 * g - 3) % 30 := by omega
      rw [hv]
      clear hv
      go_enter Tryz.func83, Tryz.ntmps83
      go_wp2_with first | (go_at_call 84; (with_reducible refine (KG.out _).mono ?_); rintro e w1 ⟨rfl, rfl⟩) | (go_at_call 51; (with_reducible refine (KM.out _ _ (by omega) (by omega)).mono ?_); rintro e w1 ⟨rfl, rfl⟩)
      go_ret
      exact ⟨rfl, rfl⟩
  · have he : epN 2 y = (11 * glN y + 20 + luN y - soN y - 1) % 30 + 1 := by unfold epN epR; rw [if_neg (by decide)]
    rw [he]
    generalize glN y = g at *
    generalize soN y = s at *
    generalize luN y = l at *
    clear he
    by_cases hz : (11 * g + 20 + l - s) % 30 = 0
    · have hv : (11 * g + 20 + l - s - 1) % 30 + 1 = 30 := by omega
      rw [hv]
      clear hv
      go_enter Tryz.func83, Tryz.ntmps83
      go_wp2_with first | (go_at_call 84; (with_reducible refine (KG.out _).mono ?_); rintro e w1 ⟨rfl, rfl⟩) | (go_at_call 129; (with_reducible refine (KS.out _).mono ?_); rintro e w1 ⟨rfl, rfl⟩) | (go_at_call 128; (with_reducible refine (KL.out _).mono ?_); rintro e w1 ⟨rfl, rfl⟩) | (go_at_call 51; (with_reducible refine (KM.out _ _ (by omega) (by omega)).mono ?_); rintro e w1 ⟨rfl, rfl⟩)
      go_ret
      exact ⟨rfl, rfl⟩
    · have hv : (11 * g + 20 + l - s - 1) % 30 + 1 = (11 * g + 20 + l - s) % 30 := by omega
      rw [hv]
      clear hv
      go_enter Tryz.func83, Tryz.ntmps83
      go_wp2_with first | (go_at_call 84; (with_reducible refine (KG.out _).mono ?_); rintro e w1 ⟨rfl, rfl⟩) | (go_at_call 129; (with_reducible refine (KS.out _).mono ?_); rintro e w1 ⟨rfl, rfl⟩) | (go_at_call 128; (with_reducible refine (KL.out _).mono ?_); rintro e w1 ⟨rfl, rfl⟩) | (go_at_call 51; (with_reducible refine (KM.out _ _ (by omega) (by omega)).mono ?_); rintro e w1 ⟨rfl, rfl⟩)
      go_ret
      exact ⟨rfl, rfl⟩
theorem rELabel_ok (k y : Int) (w : World) (h : Fit k y) :
    Calls Tryz.prog 37 #[.int .i64 k, .int .i64 y] w fun e w' => e = .returned (.int .i64 (labN k y)) ∧ w = w' := by
  have hy : 1 ≤ y ∧ y ≤ 1000000000 := by unfold Fit at h; omega
  have hg : 1 ≤ glN y ∧ glN y ≤ 19 := by unfold glN; omega
  have hE := epN_bounds k y
  have KG := Lib.hid (fun w => rGolden_ok y w hy.1 hy.2)
  have KO := Lib.hid (fun w => rEOf_ok k y w h)
  clear h
  unfold labN
  generalize glN y = g at *
  generalize epN k y = e at *
  by_cases h1 : e = 25
  · subst h1
    by_cases h2 : 11 < g
    · rw [if_pos ⟨rfl, h2⟩]
      go_enter Tryz.func37, Tryz.ntmps37
      go_wp2_with first | (go_at_call 84; (with_reducible refine (KG.out _).mono ?_); rintro e w1 ⟨rfl, rfl⟩) | (go_at_call 83; (with_reducible refine (KO.out _).mono ?_); rintro e w1 ⟨rfl, rfl⟩)
      go_ret
      exact ⟨rfl, rfl⟩
    · rw [if_neg (fun g => h2 g.2)]
      go_enter Tryz.func37, Tryz.ntmps37
      go_wp2_with first | (go_at_call 84; (with_reducible refine (KG.out _).mono ?_); rintro e w1 ⟨rfl, rfl⟩) | (go_at_call 83; (with_reducible refine (KO.out _).mono ?_); rintro e w1 ⟨rfl, rfl⟩)
      go_ret
      exact ⟨rfl, rfl⟩
  · rw [if_neg (fun g => h1 g.1)]
    go_enter Tryz.func37, Tryz.ntmps37
    go_wp2_with first | (go_at_call 84; (with_reducible refine (KG.out _).mono ?_); rintro e w1 ⟨rfl, rfl⟩) | (go_at_call 83; (with_reducible refine (KO.out _).mono ?_); rintro e w1 ⟨rfl, rfl⟩)
    go_ret
    exact ⟨rfl, rfl⟩
end Go.Proofs.YtblaphkaklocfaaGreatDoor

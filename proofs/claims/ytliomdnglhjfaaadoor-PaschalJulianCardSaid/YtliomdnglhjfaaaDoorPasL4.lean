/- PaschalJulian. -/
import Derived.Test.YtliomdnglhjfaaaDoorPasAw
import Derived.Test.YtliomdnglhjfaaaDoorLaidG
import Derived.Test.YtliomdnglhjfaaaDoorHead
set_option linter.unusedSimpArgs false
set_option linter.unusedVariables false
set_option linter.unusedSectionVars false
namespace Go.Proofs.YtliomdnglhjfaaaDoor
open Go.ChangeShapes Go.WideShapes Go.ChangeAt Go.RowKit
set_option maxHeartbeats 1000000
set_option maxRecDepth 20000

def mG (g : Int) : Int := offL (if (11 * g - 3 - 1) % 30 + 1 = 25 ∧ 11 < g then 31 else (11 * g - 3 - 1) % 30 + 1)
theorem moonI_1 (y : Int) : moonI 1 y = mG (glN y) := by
  unfold moonI labN epN epR mG
  rw [if_pos rfl]
theorem mG_inj : ∀ a : Fin 20, ∀ b : Fin 20, 1 ≤ a.val → 1 ≤ b.val → mG (a.val : Int) = mG (b.val : Int) → a = b := by decide +kernel
theorem date_inj (i j : Int) (h1 : dmo i = dmo j) (h2 : dda i = dda j) : i = j := by
  unfold dmo dda at *
  by_cases a : i ≤ 10
  · by_cases b : j ≤ 10
    · rw [if_pos a, if_pos b] at h2; omega
    · rw [if_pos a, if_neg b] at h1; omega
  · by_cases b : j ≤ 10
    · rw [if_neg a, if_pos b] at h1; omega
    · rw [if_neg a, if_neg b] at h2; omega
theorem jul_iff (y o : Int) : (dmo (moonI 1 y) = dmo (moonI 1 o) ∧ dda (moonI 1 y) = dda (moonI 1 o)) ↔ glN y = glN o := by
  have h1 : 1 ≤ glN y ∧ glN y ≤ 19 := by unfold glN; omega
  have h2 : 1 ≤ glN o ∧ glN o ≤ 19 := by unfold glN; omega
  constructor
  · intro h
    have := date_inj _ _ h.1 h.2
    rw [moonI_1, moonI_1] at this
    have e := mG_inj ⟨(glN y).toNat, by omega⟩ ⟨(glN o).toNat, by omega⟩ (by show 1 ≤ (glN y).toNat; omega) (by show 1 ≤ (glN o).toNat; omega)
    simp only [Int.toNat_of_nonneg (show 0 ≤ glN y by omega), Int.toNat_of_nonneg (show 0 ≤ glN o by omega)] at e
    have := congrArg (fun (x : Fin 20) => x.val) (e this)
    simp only at this
    omega
  · intro h
    rw [moonI_1, moonI_1, h]
    exact ⟨rfl, rfl⟩
set_option maxHeartbeats 4000000 in
theorem PaschalJulian_walk (y o : Int) (by0 : -9223372036854775808 ≤ y ∧ y ≤ 9223372036854775807) (bo : -9223372036854775808 ≤ o ∧ o ≤ 9223372036854775807) (w : World) (hT : RTab w) :
    Calls Tryd.prog 6 #[.int .i64 y, .int .i64 o] w fun e w' => e = .returned (.bool true) ∧ Kept w w' := by
  have KT := Lib.hid (fun w' (k : Kept w w') => hT.kept k)
  clear hT
  have s1 : Sm 1 := by unfold Sm; omega
  have KF := Lib.hid (fun w => Fails_any 1 y w)
  have KG := Lib.hid (fun w => Fails_any 1 o w)
  rcases fl_cases 1 y with ⟨h, e0⟩ | ⟨h, e0⟩ | ⟨h, e0⟩
  · rw [e0] at KF
    rcases fl_cases 1 o with ⟨g, e1⟩ | ⟨g, e1⟩ | ⟨g, e1⟩
    · rw [e1] at KG
      have KA := Lib.hid (fun w hT => FullMoon_any 1 y w hT s1)
      have KB := Lib.hid (fun w hT => FullMoon_any 1 o w hT s1)
      rw [e0, if_pos rfl] at KA
      rw [e1, if_pos rfl] at KB
      have hy := fit_cal _ _ h
      have ho := fit_cal _ _ g
      have K1 := Lib.hid (fun w => rGolden_ok y w hy.2.1 hy.2.2)
      have K2 := Lib.hid (fun w => rGolden_ok o w ho.2.1 ho.2.2)
      have hi := jul_iff y o
      clear e0 e1 h g hy ho
      generalize dmo (moonI 1 y) = a2 at *
      generalize dda (moonI 1 y) = a3 at *
      generalize dmo (moonI 1 o) = b2 at *
      generalize dda (moonI 1 o) = b3 at *
      generalize glN y = g1 at *
      generalize glN o = g2 at *
      by_cases e2 : a2 = b2
      · by_cases e3 : a3 = b3
        · have e1 := hi.1 ⟨e2, e3⟩
          subst e2 e3 e1
          go_enter Tryd.func6, Tryd.ntmps6
          go_wp2_with fail
          (go_at_call 19; refine (Pas_awake _ (KT.out _ (by repeat (first | with_reducible exact Kept.refl _ | with_reducible assumption | with_reducible refine Kept.drew ?_ | with_reducible refine Kept.drewN ?_ _ | with_reducible refine Kept.alloc ?_ _ | (with_reducible refine Kept.setCell ?_ (by first | exact Nat.le_refl _ | omega | (simp; done) | (simp; omega)) _) | (with_reducible refine Kept.trans ?_ (by with_reducible assumption)))))).mono ?_; rintro e w1 ⟨rfl, hk1⟩)
          go_wp2_with fail
          (go_at_call 21; refine (KF.out _).mono ?_; rintro e w1 ⟨rfl, rfl⟩)
          go_wp2_with fail
          (go_at_call 21; refine (KG.out _).mono ?_; rintro e w1 ⟨rfl, rfl⟩)
          go_wp2_with fail
          (go_at_call 20; refine (KA.out _ (KT.out _ (by repeat (first | with_reducible exact Kept.refl _ | with_reducible assumption | with_reducible refine Kept.drew ?_ | with_reducible refine Kept.drewN ?_ _ | with_reducible refine Kept.alloc ?_ _ | (with_reducible refine Kept.setCell ?_ (by first | exact Nat.le_refl _ | omega | (simp; done) | (simp; omega)) _) | (with_reducible refine Kept.trans ?_ (by with_reducible assumption)))))).mono ?_; rintro e w2 ⟨rfl, hk2⟩)
          go_wp2_with fail
          (go_at_call 20; refine (KB.out _ (KT.out _ (by repeat (first | with_reducible exact Kept.refl _ | with_reducible assumption | with_reducible refine Kept.drew ?_ | with_reducible refine Kept.drewN ?_ _ | with_reducible refine Kept.alloc ?_ _ | (with_reducible refine Kept.setCell ?_ (by first | exact Nat.le_refl _ | omega | (simp; done) | (simp; omega)) _) | (with_reducible refine Kept.trans ?_ (by with_reducible assumption)))))).mono ?_; rintro e w3 ⟨rfl, hk3⟩)
          have hB3_3 := hk3
          obtain ⟨hc3_3, hf3_3⟩ := kept_cells hB3_3
          have hz3_0_3 : w2.heap.size < w3.heap.size := by have := hB3_3.size; simp at this; omega
          go_wp2_with fail
          go_quiet ((go_at_call 32; first | with_reducible exact quiet_leftR (K1.out _) | with_reducible exact quiet_leftR (K2.out _) | with_reducible exact quiet_addR (K1.out _) | with_reducible exact quiet_addR (K2.out _)))
          go_wp2
          go_ret
          exact ⟨by first | rfl | (show Ending.returned (Value.bool _) = Ending.returned (Value.bool _); simp [*]; done), (by repeat (first | with_reducible exact Kept.refl _ | with_reducible assumption | with_reducible refine Kept.drew ?_ | with_reducible refine Kept.drewN ?_ _ | with_reducible refine Kept.alloc ?_ _ | (with_reducible refine Kept.setCell ?_ (by first | exact Nat.le_refl _ | omega | (simp; done) | (simp; omega)) _) | (with_reducible refine Kept.trans ?_ (by with_reducible assumption))))⟩
        · have e1 : ¬ g1 = g2 := fun g => e3 (hi.2 g).2
          have e1' : (g1 == g2) = false := beq_false_of_ne e1
          have e3' : (a3 == b3) = false := beq_false_of_ne e3
          subst e2
          go_enter Tryd.func6, Tryd.ntmps6
          go_wp2_with fail
          (go_at_call 19; refine (Pas_awake _ (KT.out _ (by repeat (first | with_reducible exact Kept.refl _ | with_reducible assumption | with_reducible refine Kept.drew ?_ | with_reducible refine Kept.drewN ?_ _ | with_reducible refine Kept.alloc ?_ _ | (with_reducible refine Kept.setCell ?_ (by first | exact Nat.le_refl _ | omega | (simp; done) | (simp; omega)) _) | (with_reducible refine Kept.trans ?_ (by with_reducible assumption)))))).mono ?_; rintro e w1 ⟨rfl, hk1⟩)
          go_wp2_with fail
          (go_at_call 21; refine (KF.out _).mono ?_; rintro e w1 ⟨rfl, rfl⟩)
          go_wp2_with fail
          (go_at_call 21; refine (KG.out _).mono ?_; rintro e w1 ⟨rfl, rfl⟩)
          go_wp2_with fail
          (go_at_call 20; refine (KA.out _ (KT.out _ (by repeat (first | with_reducible exact Kept.refl _ | with_reducible assumption | with_reducible refine Kept.drew ?_ | with_reducible refine Kept.drewN ?_ _ | with_reducible refine Kept.alloc ?_ _ | (with_reducible refine Kept.setCell ?_ (by first | exact Nat.le_refl _ | omega | (simp; done) | (simp; omega)) _) | (with_reducible refine Kept.trans ?_ (by with_reducible assumption)))))).mono ?_; rintro e w2 ⟨rfl, hk2⟩)
          go_wp2_with fail
          (go_at_call 20; refine (KB.out _ (KT.out _ (by repeat (first | with_reducible exact Kept.refl _ | with_reducible assumption | with_reducible refine Kept.drew ?_ | with_reducible refine Kept.drewN ?_ _ | with_reducible refine Kept.alloc ?_ _ | (with_reducible refine Kept.setCell ?_ (by first | exact Nat.le_refl _ | omega | (simp; done) | (simp; omega)) _) | (with_reducible refine Kept.trans ?_ (by with_reducible assumption)))))).mono ?_; rintro e w3 ⟨rfl, hk3⟩)
          have hB3_3 := hk3
          obtain ⟨hc3_3, hf3_3⟩ := kept_cells hB3_3
          have hz3_0_3 : w2.heap.size < w3.heap.size := by have := hB3_3.size; simp at this; omega
          go_wp2_with fail
          go_quiet ((go_at_call 32; first | with_reducible exact quiet_leftR (K1.out _) | with_reducible exact quiet_leftR (K2.out _) | with_reducible exact quiet_addR (K1.out _) | with_reducible exact quiet_addR (K2.out _)))
          go_wp2
          go_ret
          exact ⟨by first | rfl | (show Ending.returned (Value.bool _) = Ending.returned (Value.bool _); simp [*]; done), (by repeat (first | with_reducible exact Kept.refl _ | with_reducible assumption | with_reducible refine Kept.drew ?_ | with_reducible refine Kept.drewN ?_ _ | with_reducible refine Kept.alloc ?_ _ | (with_reducible refine Kept.setCell ?_ (by first | exact Nat.le_refl _ | omega | (simp; done) | (simp; omega)) _) | (with_reducible refine Kept.trans ?_ (by with_reducible assumption))))⟩
      · have e1 : ¬ g1 = g2 := fun g => e2 (hi.2 g).1
        have e1' : (g1 == g2) = false := beq_false_of_ne e1
        have e2' : (a2 == b2) = false := beq_false_of_ne e2
        go_enter Tryd.func6, Tryd.ntmps6
        go_wp2_with fail
        (go_at_call 19; refine (Pas_awake _ (KT.out _ (by repeat (first | with_reducible exact Kept.refl _ | with_reducible assumption | with_reducible refine Kept.drew ?_ | with_reducible refine Kept.drewN ?_ _ | with_reducible refine Kept.alloc ?_ _ | (with_reducible refine Kept.setCell ?_ (by first | exact Nat.le_refl _ | omega | (simp; done) | (simp; omega)) _) | (with_reducible refine Kept.trans ?_ (by with_reducible assumption)))))).mono ?_; rintro e w1 ⟨rfl, hk1⟩)
        go_wp2_with fail
        (go_at_call 21; refine (KF.out _).mono ?_; rintro e w1 ⟨rfl, rfl⟩)
        go_wp2_with fail
        (go_at_call 21; refine (KG.out _).mono ?_; rintro e w1 ⟨rfl, rfl⟩)
        go_wp2_with fail
        (go_at_call 20; refine (KA.out _ (KT.out _ (by repeat (first | with_reducible exact Kept.refl _ | with_reducible assumption | with_reducible refine Kept.drew ?_ | with_reducible refine Kept.drewN ?_ _ | with_reducible refine Kept.alloc ?_ _ | (with_reducible refine Kept.setCell ?_ (by first | exact Nat.le_refl _ | omega | (simp; done) | (simp; omega)) _) | (with_reducible refine Kept.trans ?_ (by with_reducible assumption)))))).mono ?_; rintro e w2 ⟨rfl, hk2⟩)
        go_wp2_with fail
        (go_at_call 20; refine (KB.out _ (KT.out _ (by repeat (first | with_reducible exact Kept.refl _ | with_reducible assumption | with_reducible refine Kept.drew ?_ | with_reducible refine Kept.drewN ?_ _ | with_reducible refine Kept.alloc ?_ _ | (with_reducible refine Kept.setCell ?_ (by first | exact Nat.le_refl _ | omega | (simp; done) | (simp; omega)) _) | (with_reducible refine Kept.trans ?_ (by with_reducible assumption)))))).mono ?_; rintro e w3 ⟨rfl, hk3⟩)
        have hB3_3 := hk3
        obtain ⟨hc3_3, hf3_3⟩ := kept_cells hB3_3
        have hz3_0_3 : w2.heap.size < w3.heap.size := by have := hB3_3.size; simp at this; omega
        go_wp2_with fail
        go_quiet ((go_at_call 32; first | with_reducible exact quiet_leftR (K1.out _) | with_reducible exact quiet_leftR (K2.out _) | with_reducible exact quiet_addR (K1.out _) | with_reducible exact quiet_addR (K2.out _)))
        go_wp2
        go_ret
        exact ⟨by first | rfl | (show Ending.returned (Value.bool _) = Ending.returned (Value.bool _); simp [*]; done), (by repeat (first | with_reducible exact Kept.refl _ | with_reducible assumption | with_reducible refine Kept.drew ?_ | with_reducible refine Kept.drewN ?_ _ | with_reducible refine Kept.alloc ?_ _ | (with_reducible refine Kept.setCell ?_ (by first | exact Nat.le_refl _ | omega | (simp; done) | (simp; omega)) _) | (with_reducible refine Kept.trans ?_ (by with_reducible assumption))))⟩
    · rw [e1] at KG
      clear e0 e1 h g
      go_enter Tryd.func6, Tryd.ntmps6
      go_wp2_with fail
      (go_at_call 19; refine (Pas_awake _ (KT.out _ (by repeat (first | with_reducible exact Kept.refl _ | with_reducible assumption | with_reducible refine Kept.drew ?_ | with_reducible refine Kept.drewN ?_ _ | with_reducible refine Kept.alloc ?_ _ | (with_reducible refine Kept.setCell ?_ (by first | exact Nat.le_refl _ | omega | (simp; done) | (simp; omega)) _) | (with_reducible refine Kept.trans ?_ (by with_reducible assumption)))))).mono ?_; rintro e w1 ⟨rfl, hk1⟩)
      go_wp2_with fail
      (go_at_call 21; refine (KF.out _).mono ?_; rintro e w1 ⟨rfl, rfl⟩)
      go_wp2_with fail
      (go_at_call 21; refine (KG.out _).mono ?_; rintro e w1 ⟨rfl, rfl⟩)
      go_wp2_with fail
      (go_at_call 19; refine (Pas_awake _ (KT.out _ (by repeat (first | with_reducible exact Kept.refl _ | with_reducible assumption | with_reducible refine Kept.drew ?_ | with_reducible refine Kept.drewN ?_ _ | with_reducible refine Kept.alloc ?_ _ | (with_reducible refine Kept.setCell ?_ (by first | exact Nat.le_refl _ | omega | (simp; done) | (simp; omega)) _) | (with_reducible refine Kept.trans ?_ (by with_reducible assumption)))))).mono ?_; rintro e w2 ⟨rfl, hk2⟩)
      go_wp2
      go_ret
      exact ⟨by first | rfl | (show Ending.returned (Value.bool _) = Ending.returned (Value.bool _); simp [*]; done), (by repeat (first | with_reducible exact Kept.refl _ | with_reducible assumption | with_reducible refine Kept.drew ?_ | with_reducible refine Kept.drewN ?_ _ | with_reducible refine Kept.alloc ?_ _ | (with_reducible refine Kept.setCell ?_ (by first | exact Nat.le_refl _ | omega | (simp; done) | (simp; omega)) _) | (with_reducible refine Kept.trans ?_ (by with_reducible assumption))))⟩
    · omega
  · rw [e0] at KF
    clear e0 h
    go_enter Tryd.func6, Tryd.ntmps6
    go_wp2_with fail
    (go_at_call 19; refine (Pas_awake _ (KT.out _ (by repeat (first | with_reducible exact Kept.refl _ | with_reducible assumption | with_reducible refine Kept.drew ?_ | with_reducible refine Kept.drewN ?_ _ | with_reducible refine Kept.alloc ?_ _ | (with_reducible refine Kept.setCell ?_ (by first | exact Nat.le_refl _ | omega | (simp; done) | (simp; omega)) _) | (with_reducible refine Kept.trans ?_ (by with_reducible assumption)))))).mono ?_; rintro e w1 ⟨rfl, hk1⟩)
    go_wp2_with fail
    (go_at_call 21; refine (KF.out _).mono ?_; rintro e w1 ⟨rfl, rfl⟩)
    go_wp2_with fail
    (go_at_call 19; refine (Pas_awake _ (KT.out _ (by repeat (first | with_reducible exact Kept.refl _ | with_reducible assumption | with_reducible refine Kept.drew ?_ | with_reducible refine Kept.drewN ?_ _ | with_reducible refine Kept.alloc ?_ _ | (with_reducible refine Kept.setCell ?_ (by first | exact Nat.le_refl _ | omega | (simp; done) | (simp; omega)) _) | (with_reducible refine Kept.trans ?_ (by with_reducible assumption)))))).mono ?_; rintro e w2 ⟨rfl, hk2⟩)
    go_wp2
    go_ret
    exact ⟨by first | rfl | (show Ending.returned (Value.bool _) = Ending.returned (Value.bool _); simp [*]; done), (by repeat (first | with_reducible exact Kept.refl _ | with_reducible assumption | with_reducible refine Kept.drew ?_ | with_reducible refine Kept.drewN ?_ _ | with_reducible refine Kept.alloc ?_ _ | (with_reducible refine Kept.setCell ?_ (by first | exact Nat.le_refl _ | omega | (simp; done) | (simp; omega)) _) | (with_reducible refine Kept.trans ?_ (by with_reducible assumption))))⟩
  · omega

set_option maxRecDepth 100000 in
theorem PaschalJulian_contract (H : Type) (enc : TypeId × Value → H) (W : World) (base : Nat) (args : Array Value) (ds gs : List (DataW H)) (before : List MemPlace)
    (hval : ∀ (j : Nat) t v, Tryd.f6.params[j]? = some t → args[j]? = some v → Value.okWide Tryd.prog W .any base t v)
    (hW : DataW.Whole enc Tryd.prog Tryd.f6.params.toList Rows.paschalJulianSpec.vars false W args.toList ds gs before) (hL : laidMetH Tryd.prog Rows.paschalJulianRow.laid W) :
    Calls Tryd.prog 6 args W fun e W' => ∃ v, e = .returned v ∧ Rows.paschalJulianSpec.post enc Tryd.prog Tryd.f6 false true false false W args v W' := by
  have hW' := hW
  obtain ⟨p, q, hA0, hV, rfl, hfz, hnd⟩ := hW
  have hA : DataW.TrodAll enc Tryd.prog W 0 (fun _ => true) true Tryd.f6.params.toList args.toList ds p := hA0
  rw [Tryd.params6] at hA hval
  obtain ⟨v0, vs0, d0, ds0, p0, q0, hargs, rfl, rfl, h0, r0⟩ := trodAll_cons hA
  obtain ⟨v1, vs1, d1, ds1, p1, q1, rfl, rfl, rfl, h1, r1⟩ := trodAll_cons r0
  obtain ⟨rfl, rfl, rfl⟩ := trodAll_nil r1
  obtain rfl : args = #[v0, v1] := by cases args; simp_all
  obtain ⟨rfl, rfl⟩ := trodVars_none hV
  obtain ⟨a0, rfl, rfl, rfl, w0⟩ := open_int Tryd.underlying3 (hval 0 3 v0 rfl rfl) h0
  obtain ⟨a1, rfl, rfl, rfl, w1⟩ := open_int Tryd.underlying3 (hval 1 3 v1 rfl rfl) h1
  clear hA0
  simp only [List.append_nil] at hW'
  refine (PaschalJulian_walk a0 a1 (wf_bounds w0) (wf_bounds w1) W (tab_of hL)).mono fun e W' ⟨he, hg⟩ => ?_
  subst he
  exact ⟨_, rfl, post_of_kept (pa := []) (pv := []) hW' (fun _ _ _ => (trodAll_cons_mk (shut_bool Tryd.underlying4 _) trodAll_mk0)) (fun sp _ => (trodAll_cons_mk (shut_int Tryd.underlying3 w0) (trodAll_cons_mk (shut_int Tryd.underlying3 w1) trodAll_mk0))) (fun _ _ => rfl) rfl
    hg (ok_one (by kernel_rfl) rfl (okWide_bool_mk Tryd.underlying4 _))⟩
theorem PaschalJulian_laid (os : Os) : laidMet Tryd.prog Rows.paschalJulianRow.laid ((laidWorld os).forCall (fun _ _ => 0) ⟨#[], #[.int .i64 0, .int .i64 0], []⟩).memory :=
  laidMet_of_run' 8 (by kernel_rfl) (by kernel_rfl)
theorem PaschalJulian_reads (os : Os) {H : Type} (enc : TypeId × Value → H) : ∃ places, DataW.whole enc Tryd.prog ((laidWorld os).forCall (fun _ _ => 0) ⟨#[], #[.int .i64 0, .int .i64 0], []⟩).memory Tryd.f6.params.toList Rows.paschalJulianSpec.vars false (#[.int .i64 0, .int .i64 0] : Array Value).toList 8 = some ([.lit (.int .i64 0), .lit (.int .i64 0)], [], places) :=
  ⟨[], by kernel_rfl⟩
set_option maxRecDepth 100000 in
theorem PaschalJulian_lifted (os : Os) (started : os.Started) (H : Type) (enc : TypeId × Value → H) (F : Stop.Interp) :
    ReturnsInHanded {} Tryd.checked os 6 .any ((OpenSpec.ofChange Rows.paschalJulianSpec).preRow enc Tryd.prog Tryd.f6 Rows.paschalJulianRow.domain false Rows.paschalJulianRow.laid) (((OpenSpec.ofChange Rows.paschalJulianSpec).at F).post enc Tryd.prog Tryd.f6 false true false false) := by
  obtain ⟨places, hx⟩ := PaschalJulian_reads os enc
  refine returnsInHanded_of_row (C := Tryd.checked) (s := OpenSpec.ofChange Rows.paschalJulianSpec) own_knob started (by kernel_rfl) Tryd.func6
    (witness_row_at (enc := enc) (C := Tryd.checked) false (laidWorld os) #[.int .i64 0, .int .i64 0] rfl (by kernel_rfl) (by kernel_rfl) (by kernel_rfl)
      (OpenSpec.preRow_of_cond 8 hx (by kernel_rfl) (fun k hk => by cases hk) (by kernel_rfl) (PaschalJulian_laid os))) ?_
  intro W base args ds gs before hval hW _ _ _ hL _ _
  exact PaschalJulian_contract H enc W base args ds gs before hval hW hL
theorem PaschalJulian_closed : joinedFacts Tryd.pinned.checked.prog 6 Tryd.f6 (OpenSpec.ofChange Rows.paschalJulianSpec).bare Rows.paschalJulianRow = true := by
  unfold joinedFacts
  simp only [Bool.and_eq_true]
  repeat' apply And.intro
  all_goals (first | with_reducible exact head_enter | (rw [head_make]; rfl) | (rw [head_final]; rfl) | (as_aux_lemma => kernel_rfl))
theorem PaschalJulian_said : Rows.PaschalJulianSaid :=
  OpenClaim.holds_of_cond 6 Tryd.f6 rfl rfl rfl rfl rfl rfl rfl ⟨rfl, rfl, rfl, rfl, rfl⟩ rfl rfl rfl rfl rfl (by kernel_rfl) Tryd.func6 PaschalJulian_closed
    (of_decide_eq_true (by kernel_rfl)) (by unfold Func.isWrapper; first | (rw [if_pos (by decide +kernel)]; kernel_rfl) | (rw [if_neg (by decide +kernel)]; exact ⟨rfl, rfl⟩))
    (fun os started H enc _ F => by rw [OpenClaim.pre_eq_preRow]; exact PaschalJulian_lifted os started H enc F)
theorem PaschalJulian_plain (f : FuncId) (fn : Func) (hf : Tryd.pinned.checked.prog.funcNamed "computus/computuslaw09.PaschalJulian" = some f) (hfn : Tryd.pinned.checked.prog.funcs[f]? = some fn) :
    false = Tryd.pinned.checked.prog.looks [] ∧ ∀ (j : Nat) t, fn.params[j]? = some t → Tryd.pinned.checked.prog.wantsStandIn t = false := by
  obtain rfl : f = 6 := Option.some.inj ((show Tryd.prog.funcNamed "computus/computuslaw09.PaschalJulian" = some 6 by kernel_rfl).symm.trans hf) |>.symm
  obtain rfl : fn = Tryd.f6 := (Option.some.inj (Tryd.func6.symm.trans hfn)).symm
  refine ⟨by kernel_rfl, fun j t ht => ?_⟩
  rw [Tryd.params6] at ht
  have hm : t ∈ [3, 3] := by simpa using Array.mem_of_getElem? ht
  have hall : ([3, 3].all fun u => !Tryd.prog.wantsStandIn u) = true := by kernel_rfl
  exact (show Tryd.prog.wantsStandIn t = false by simpa using List.all_eq_true.1 hall t hm)
theorem PaschalJulian_proved : Rows.PaschalJulianCardSaid :=
  Claim7.holds_tied_plain_at .later [] _ _ _ _ PaschalJulian_said (fun _ h => by cases h) (by kernel_rfl) (fun _ h => by cases h) paschalJulian_row_tie rfl ⟨rfl, rfl⟩ (mainIs_of io_list (by kernel_rfl)) rfl PaschalJulian_plain (by kernel_rfl)
#print axioms PaschalJulian_proved
end Go.Proofs.YtliomdnglhjfaaaDoor

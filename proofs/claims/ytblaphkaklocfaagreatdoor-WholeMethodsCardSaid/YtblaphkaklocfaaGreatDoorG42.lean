/- WholeMethods: for every calendar and year the three methods give the same answer, that of counting days one by one; outside of the range each gives the error. No condition: every input that the statement speaks of. -/
import Derived.Test.YtblaphkaklocfaaGreatDoorG01
import Derived.Test.YtblaphkaklocfaaGreatDoorG37
import Derived.Test.YtblaphkaklocfaaGreatDoorG39
import Derived.Test.YtblaphkaklocfaaGreatDoorG40
import Derived.Test.YtblaphkaklocfaaGreatDoorG41
set_option linter.unusedSimpArgs false
set_option linter.unusedVariables false
set_option linter.unusedSectionVars false
/- WholeMethods: for every calendar and year the three methods give the same answer, that of counting days one by one; outside of the range each gives the error. -/
namespace Go.Proofs.YtblaphkaklocfaaGreatDoor
open Go.ChangeShapes Go.WideShapes Go.ChangeAt Go.RowKit
set_option maxHeartbeats 4000000
set_option maxRecDepth 20000

theorem WholeMethods_walk (c y : Int) (bc : 0 ≤ c ∧ c ≤ 255) (by0 : -9223372036854775808 ≤ y ∧ y ≤ 9223372036854775807) (w : World) (hT : WTab w) :
    Calls Tryz.prog 3 #[.int .u8 c, .int .i64 y] w fun e w' => e = .returned (.bool true) ∧ Kept w w' := by
  obtain ⟨bc1, bc2⟩ := bc
  obtain ⟨by1, by2⟩ := by0
  have hk : 1 ≤ 1 + c % 2 ∧ 1 + c % 2 ≤ 2 := by omega
  have KA := Lib.hid (Top_awake w hT.1 hT.2)
  have KM := Lib.hid (fun m w' (q : Kept w w') h => ask_m (1 + c % 2) m y w' (hT.kept q) hk h)
  rcases fl_cases (1 + c % 2) y with ⟨h, e0⟩ | ⟨h, e0⟩ | ⟨h, e0⟩
  · have KF := Lib.hid (fun w => Fails_ok (1 + c % 2) y w h)
    have KO := Lib.hid (fun w => model_ok (1 + c % 2) y w h)
    have hb : (-1000000000000 ≤ y ∧ y ≤ 1000000000000) ∧ (-1000000000000 ≤ dmo (easI (1 + c % 2) y) ∧ dmo (easI (1 + c % 2) y) ≤ 1000000000000) ∧ (-1000000000000 ≤ dda (easI (1 + c % 2) y) ∧ dda (easI (1 + c % 2) y) ≤ 1000000000000) := by
      obtain ⟨hi1, hi2, _, _⟩ := easI_bounds (1 + c % 2) y
      obtain ⟨_, hy1, hy2⟩ := fit_cal (1 + c % 2) y h
      refine ⟨by omega, ?_, ?_⟩
      · unfold dmo; split <;> omega
      · unfold dda; split <;> omega
    have KD := Lib.hid (fun w' (q : Kept w w') => DateText_ok y (dmo (easI (1 + c % 2) y)) (dda (easI (1 + c % 2) y)) w' (hT.2.kept q) hb.1 hb.2.1 hb.2.2)
    rw [e0, show ∀ a b d, ansT 0 a b d = dateT a b d from fun _ _ _ => if_pos rfl] at KM
    clear hT e0 h hb
    generalize dateT y (dmo (easI (1 + c % 2) y)) (dda (easI (1 + c % 2) y)) = s at *
    generalize dmo (easI (1 + c % 2) y) = x2 at *
    generalize dda (easI (1 + c % 2) y) = x3 at *
    go_enter Tryz.func3, Tryz.ntmps3
    go_wp2_with fail
    go_at_call 8
    refine KA.out.mono ?_
    rintro e w1 ⟨rfl, hk1⟩
    go_wp2_with fail
    go_at_call 9
    refine (KF.out _).mono ?_
    rintro e w2 ⟨rfl, rfl⟩
    obtain ⟨W1, hW1⟩ : ∃ x, x = w1.alloc (.cells #[.string ⟨#[]⟩, .int .i64 0, .int .i64 1] 25) := ⟨_, rfl⟩
    have k1 : Hid (Kept w W1) := (show Kept _ _ from by rw [hW1]; exact hk1.alloc _)
    have b1 : Hid (Blk W1 w1.heap.size #[.string ⟨#[]⟩, .int .i64 0, .int .i64 1] 25) := (show Blk _ _ _ _ from by rw [hW1]; exact Blk.new _ _ _)
    have hz := Lib.hid hk1.size
    rw [← hW1]
    clear hW1 hk1 KA KF
    generalize w1.heap.size = R at *
    go_wp2_with fail
    go_at_call 11
    refine (KO.out _).mono ?_
    rintro e w2 ⟨rfl, hk2⟩
    go_wp2_with fail
    go_at_call 10
    refine (KD.out _ (k1.out.trans hk2)).mono ?_
    rintro e w3 ⟨rfl, hk3⟩
    have k3 := Lib.hid ((k1.out.trans hk2).trans hk3)
    have b3 := (b1.out.kept hk2).kept hk3
    have c0 : w3.cell? ⟨R, 0, none⟩ = some (.string ⟨#[]⟩) := (b3.cell _).trans rfl
    have c1 : w3.cell? ⟨R, 1, none⟩ = some (.int .i64 0) := (b3.cell _).trans rfl
    have c2 : w3.cell? ⟨R, 2, none⟩ = some (.int .i64 1) := (b3.cell _).trans rfl
    have g0 := b3.free 0
    have g1 := b3.free 1
    have g2 := b3.free 2
    have l3 := b3.lt
    have h3 := Lib.hid b3
    clear b3 hk2 hk3 KO KD b1 k1
    go_wp2_with fail
    obtain ⟨W4, hW4⟩ : ∃ x, x = (((w3.setCell ⟨R, 0, none⟩ (.string s)).setCell ⟨R, 1, none⟩ (.int .i64 0)).setCell ⟨R, 2, none⟩ (.int .i64 0)) := ⟨_, rfl⟩
    rw [← hW4]
    have k4 : Hid (Kept w W4) := (show Kept _ _ from by rw [hW4]; exact Kept.setCell (Kept.setCell (Kept.setCell k3.out hz.out _) hz.out _) hz.out _)
    have b4 : Hid (Blk W4 R #[.string s, .int .i64 0, .int .i64 0] 25) := (show Blk _ _ _ _ from by
      rw [hW4]
      exact blk_put (blk_put (blk_put h3.out (.string s) rfl) (.int .i64 0) rfl) (.int .i64 0) rfl)
    clear hW4 c0 c1 c2 g0 g1 g2 l3 h3 k3
    go_loopw [7] (fun v wr => ∃ m : Int, 1 ≤ m ∧ m ≤ 4 ∧ v = .int .i64 m ∧ Kept W4 wr) (fun v _ => (4 - intOf v).toNat)
    case atStart => exact ⟨1, by omega, by omega, rfl, Kept.refl _⟩
    case round =>
      obtain ⟨m, m0, m1, rfl, hkr⟩ := hrel
      by_cases hm : m ≤ 3
      · have br := b4.out.kept hkr
        have KR := Lib.hid (k4.out.trans hkr)
        have c0 : wr.cell? ⟨R, 0, none⟩ = some (.string s) := (br.cell _).trans rfl
        have c1 : wr.cell? ⟨R, 1, none⟩ = some (.int .i64 0) := (br.cell _).trans rfl
        have c2 : wr.cell? ⟨R, 2, none⟩ = some (.int .i64 0) := (br.cell _).trans rfl
        have lr := br.lt
        clear br
        go_wp2_with fail
        go_region_held3 (fun w' => Kept wr w' ∧ (∀ b o, b < wr.heap.size → w'.cell? ⟨b, o, none⟩ = wr.cell? ⟨b, o, none⟩)) (exact held_of (by (repeat (first | with_reducible assumption | with_reducible exact Kept.refl _ | with_reducible apply Kept.drew | with_reducible apply Kept.alloc | (with_reducible refine Kept.setCell ?_ (by first | exact Nat.le_refl _ | (dsimp only; omega)) _))))) (first
          | (go_at_call 12; (with_reducible refine (KM.out m _ (KR.out.trans ?_) ⟨m0, hm⟩).mono ?_); (· (repeat (first | with_reducible assumption | with_reducible exact Kept.refl _ | with_reducible apply Kept.drew | with_reducible apply Kept.alloc | (with_reducible refine Kept.setCell ?_ (by first | exact Nat.le_refl _ | (dsimp only; omega)) _)))); rintro e w5 ⟨rfl, hk5⟩; have kk5 : Kept wr w5 := Kept.trans (by (repeat (first | with_reducible assumption | with_reducible exact Kept.refl _ | with_reducible apply Kept.drew | with_reducible apply Kept.alloc | (with_reducible refine Kept.setCell ?_ (by first | exact Nat.le_refl _ | (dsimp only; omega)) _)))) hk5))
        all_goals go_wp2_with fail
        all_goals go_roundw
        case rel => exact ⟨m + 1, by omega, by omega, by go_num, hkr.trans kk5⟩
        case measure => simp [intOf]; omega
      · go_wp2_with fail
        go_ret
        exact ⟨rfl, k4.out.trans hkr⟩
  · have KF := Lib.hid (fun w => Fails_off (1 + c % 2) y w h)
    rw [e0, show ∀ a b d, ansT 1 a b d = ⟨#[]⟩ from fun _ _ _ => rfl] at KM
    clear hT e0 h
    go_enter Tryz.func3, Tryz.ntmps3
    go_wp2_with fail
    go_at_call 8
    refine KA.out.mono ?_
    rintro e w1 ⟨rfl, hk1⟩
    go_wp2_with fail
    go_at_call 9
    refine (KF.out _).mono ?_
    rintro e w2 ⟨rfl, rfl⟩
    obtain ⟨W4, hW4⟩ : ∃ x, x = w1.alloc (.cells #[.string ⟨#[]⟩, .int .i64 0, .int .i64 1] 25) := ⟨_, rfl⟩
    have k4 : Hid (Kept w W4) := (show Kept _ _ from by rw [hW4]; exact hk1.alloc _)
    have b4 : Hid (Blk W4 w1.heap.size #[.string ⟨#[]⟩, .int .i64 0, .int .i64 1] 25) := (show Blk _ _ _ _ from by rw [hW4]; exact Blk.new _ _ _)
    rw [← hW4]
    clear hW4 hk1 KA KF
    generalize w1.heap.size = R at *
    go_wp2_with fail
    go_loopw [7] (fun v wr => ∃ m : Int, 1 ≤ m ∧ m ≤ 4 ∧ v = .int .i64 m ∧ Kept W4 wr) (fun v _ => (4 - intOf v).toNat)
    case atStart => exact ⟨1, by omega, by omega, rfl, Kept.refl _⟩
    case round =>
      obtain ⟨m, m0, m1, rfl, hkr⟩ := hrel
      by_cases hm : m ≤ 3
      · have br := b4.out.kept hkr
        have KR := Lib.hid (k4.out.trans hkr)
        have c0 : wr.cell? ⟨R, 0, none⟩ = some (.string ⟨#[]⟩) := (br.cell _).trans rfl
        have c1 : wr.cell? ⟨R, 1, none⟩ = some (.int .i64 0) := (br.cell _).trans rfl
        have c2 : wr.cell? ⟨R, 2, none⟩ = some (.int .i64 1) := (br.cell _).trans rfl
        have lr := br.lt
        clear br
        go_wp2_with fail
        go_region_held3 (fun w' => Kept wr w' ∧ (∀ b o, b < wr.heap.size → w'.cell? ⟨b, o, none⟩ = wr.cell? ⟨b, o, none⟩)) (exact held_of (by (repeat (first | with_reducible assumption | with_reducible exact Kept.refl _ | with_reducible apply Kept.drew | with_reducible apply Kept.alloc | (with_reducible refine Kept.setCell ?_ (by first | exact Nat.le_refl _ | (dsimp only; omega)) _))))) (first
          | (go_at_call 12; (with_reducible refine (KM.out m _ (KR.out.trans ?_) ⟨m0, hm⟩).mono ?_); (· (repeat (first | with_reducible assumption | with_reducible exact Kept.refl _ | with_reducible apply Kept.drew | with_reducible apply Kept.alloc | (with_reducible refine Kept.setCell ?_ (by first | exact Nat.le_refl _ | (dsimp only; omega)) _)))); rintro e w5 ⟨rfl, hk5⟩; have kk5 : Kept wr w5 := Kept.trans (by (repeat (first | with_reducible assumption | with_reducible exact Kept.refl _ | with_reducible apply Kept.drew | with_reducible apply Kept.alloc | (with_reducible refine Kept.setCell ?_ (by first | exact Nat.le_refl _ | (dsimp only; omega)) _)))) hk5))
        all_goals go_wp2_with fail
        all_goals go_roundw
        case rel => exact ⟨m + 1, by omega, by omega, by go_num, hkr.trans kk5⟩
        case measure => simp [intOf]; omega
      · go_wp2_with fail
        go_ret
        exact ⟨rfl, k4.out.trans hkr⟩
  · omega
end Go.Proofs.YtblaphkaklocfaaGreatDoor
namespace Go.Proofs.YtblaphkaklocfaaGreatDoor
open Go.ChangeShapes Go.WideShapes Go.ChangeAt Go.RowKit
set_option maxHeartbeats 4000000
set_option maxRecDepth 20000

set_option maxRecDepth 100000 in
theorem WholeMethods_contract (H : Type) (enc : TypeId × Value → H) (W : World) (base : Nat) (args : Array Value) (ds gs : List (DataW H)) (before : List MemPlace)
    (hval : ∀ (j : Nat) t v, Tryz.f3.params[j]? = some t → args[j]? = some v → Value.okWide Tryz.prog W .any base t v)
    (hW : DataW.Whole enc Tryz.prog Tryz.f3.params.toList Rows.wholeMethodsSpec.vars false W args.toList ds gs before) (hL : laidMetH Tryz.prog Rows.wholeMethodsRow.laid W) :
    Calls Tryz.prog 3 args W fun e W' => ∃ v, e = .returned v ∧ Rows.wholeMethodsSpec.post enc Tryz.prog Tryz.f3 false true false false W args v W' := by
  have hW' := hW
  obtain ⟨p, q, hA0, hV, rfl, hfz, hnd⟩ := hW
  have hA : DataW.TrodAll enc Tryz.prog W 0 (fun _ => true) true Tryz.f3.params.toList args.toList ds p := hA0
  rw [Tryz.params3] at hA hval
  obtain ⟨v0, vs0, d0, ds0, p0, q0, hargs, rfl, rfl, h0, r0⟩ := trodAll_cons hA
  obtain ⟨v1, vs1, d1, ds1, p1, q1, rfl, rfl, rfl, h1, r1⟩ := trodAll_cons r0
  obtain ⟨rfl, rfl, rfl⟩ := trodAll_nil r1
  obtain rfl : args = #[v0, v1] := by cases args; simp_all
  obtain ⟨rfl, rfl⟩ := trodVars_none hV
  obtain ⟨a0, rfl, rfl, rfl, w0⟩ := open_int Tryz.underlying5 (hval 0 5 v0 rfl rfl) h0
  obtain ⟨a1, rfl, rfl, rfl, w1⟩ := open_int Tryz.underlying3 (hval 1 3 v1 rfl rfl) h1
  clear hA0
  simp only [List.append_nil] at hW'
  refine (WholeMethods_walk a0 a1 (wf_bounds8 w0) (wf_bounds w1) W (tab_of hL)).mono fun e W' ⟨he, hg⟩ => ?_
  subst he
  exact ⟨_, rfl, post_of_kept (pa := []) (pv := []) hW' (fun _ _ _ => (trodAll_cons_mk (shut_bool Tryz.underlying4 _) trodAll_mk0)) (fun sp _ => (trodAll_cons_mk (shut_int Tryz.underlying5 w0) (trodAll_cons_mk (shut_int Tryz.underlying3 w1) trodAll_mk0))) (fun _ _ => rfl) rfl
    hg (ok_one (by kernel_rfl) rfl (okWide_bool_mk Tryz.underlying4 _))⟩
theorem WholeMethods_laid (os : Os) : laidMet Tryz.prog Rows.wholeMethodsRow.laid ((laidWorld os).forCall (fun _ _ => 0) ⟨#[], #[.int .u8 0, .int .i64 0], []⟩).memory :=
  laidMet_of_run' 8 (by kernel_rfl) (by kernel_rfl)
theorem WholeMethods_reads (os : Os) {H : Type} (enc : TypeId × Value → H) : ∃ places, DataW.whole enc Tryz.prog ((laidWorld os).forCall (fun _ _ => 0) ⟨#[], #[.int .u8 0, .int .i64 0], []⟩).memory Tryz.f3.params.toList Rows.wholeMethodsSpec.vars false (#[.int .u8 0, .int .i64 0] : Array Value).toList 8 = some ([.lit (.int .u8 0), .lit (.int .i64 0)], [], places) :=
  ⟨[], by kernel_rfl⟩
set_option maxRecDepth 100000 in
theorem WholeMethods_lifted (os : Os) (started : os.Started) (H : Type) (enc : TypeId × Value → H) (F : Stop.Interp) :
    ReturnsInHanded {} Tryz.checked os 3 .any ((OpenSpec.ofChange Rows.wholeMethodsSpec).preRow enc Tryz.prog Tryz.f3 Rows.wholeMethodsRow.domain false Rows.wholeMethodsRow.laid) (((OpenSpec.ofChange Rows.wholeMethodsSpec).at F).post enc Tryz.prog Tryz.f3 false true false false) := by
  obtain ⟨places, hx⟩ := WholeMethods_reads os enc
  refine returnsInHanded_of_row (C := Tryz.checked) (s := OpenSpec.ofChange Rows.wholeMethodsSpec) own_knob started (by kernel_rfl) Tryz.func3
    (witness_row_at (enc := enc) (C := Tryz.checked) false (laidWorld os) #[.int .u8 0, .int .i64 0] rfl (by kernel_rfl) (by kernel_rfl) (by kernel_rfl)
      (OpenSpec.preRow_of_cond 8 hx (by kernel_rfl) (fun k hk => by cases hk) (by kernel_rfl) (WholeMethods_laid os))) ?_
  intro W base args ds gs before hval hW _ _ _ hL _ _
  exact WholeMethods_contract H enc W base args ds gs before hval hW hL
theorem WholeMethods_closed : joinedFacts Tryz.pinned.checked.prog 3 Tryz.f3 (OpenSpec.ofChange Rows.wholeMethodsSpec).bare Rows.wholeMethodsRow = true := by
  unfold joinedFacts
  simp only [Bool.and_eq_true]
  repeat' apply And.intro
  all_goals (first | with_reducible exact head_enter | (rw [head_make]; rfl) | (rw [head_final]; rfl) | (as_aux_lemma => kernel_rfl))
theorem WholeMethods_said : Rows.WholeMethodsSaid :=
  OpenClaim.holds_of_cond 3 Tryz.f3 rfl rfl rfl rfl rfl rfl rfl ⟨rfl, rfl, rfl, rfl, rfl⟩ rfl rfl rfl rfl rfl (by kernel_rfl) Tryz.func3 WholeMethods_closed
    (of_decide_eq_true (by kernel_rfl)) (by unfold Func.isWrapper; first | (rw [if_pos (by decide +kernel)]; kernel_rfl) | (rw [if_neg (by decide +kernel)]; exact ⟨rfl, rfl⟩))
    (fun os started H enc _ F => by rw [OpenClaim.pre_eq_preRow]; exact WholeMethods_lifted os started H enc F)
theorem WholeMethods_plain (f : FuncId) (fn : Func) (hf : Tryz.pinned.checked.prog.funcNamed "computus/computustop.WholeMethods" = some f) (hfn : Tryz.pinned.checked.prog.funcs[f]? = some fn) :
    true = Tryz.pinned.checked.prog.looks [] ∧ ∀ (j : Nat) t, fn.params[j]? = some t → Tryz.pinned.checked.prog.wantsStandIn t = false := by
  obtain rfl : f = 3 := Option.some.inj ((show Tryz.prog.funcNamed "computus/computustop.WholeMethods" = some 3 by kernel_rfl).symm.trans hf) |>.symm
  obtain rfl : fn = Tryz.f3 := (Option.some.inj (Tryz.func3.symm.trans hfn)).symm
  refine ⟨by kernel_rfl, fun j t ht => ?_⟩
  rw [Tryz.params3] at ht
  have hm : t ∈ [5, 3] := by simpa using Array.mem_of_getElem? ht
  have hall : ([5, 3].all fun u => !Tryz.prog.wantsStandIn u) = true := by kernel_rfl
  exact (show Tryz.prog.wantsStandIn t = false by simpa using List.all_eq_true.1 hall t hm)
theorem WholeMethods_proved : Rows.WholeMethodsCardSaid :=
  Claim7.holds_tied_plain_at .later [] _ _ _ _ WholeMethods_said (fun _ h => by cases h) (by kernel_rfl) (fun _ h => by cases h) wholeMethods_row_tie rfl ⟨rfl, rfl⟩ (mainIs_of io_list (by kernel_rfl)) rfl WholeMethods_plain (by kernel_rfl)
#print axioms WholeMethods_proved
end Go.Proofs.YtblaphkaklocfaaGreatDoor

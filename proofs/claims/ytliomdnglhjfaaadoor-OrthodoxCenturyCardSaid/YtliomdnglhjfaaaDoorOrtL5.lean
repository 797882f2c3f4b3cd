/- OrthodoxCentury. -/
import Derived.Test.YtliomdnglhjfaaaDoorOrtL
import Derived.Test.YtliomdnglhjfaaaDoorLaidG
import Derived.Test.YtliomdnglhjfaaaDoorHead
set_option linter.unusedSimpArgs false
set_option linter.unusedVariables false
set_option linter.unusedSectionVars false
namespace Go.Proofs.YtliomdnglhjfaaaDoor
open Go.ChangeShapes Go.WideShapes Go.ChangeAt Go.RowKit
set_option maxHeartbeats 1000000
set_option maxRecDepth 20000

/-- From 1900 to 2099 the Gregorian calendar is 13 days ahead (12 days ahead till February 1900): Orthodox Easter is the day easI 1 + 13 from 21 March. -/
def ctI (y : Int) : Int := easI 1 y + 13
def ctM (i : Int) : Int := if i ≤ 10 then 3 else if i ≤ 40 then 4 else 5
def ctD (i : Int) : Int := if i ≤ 10 then 21 + i else if i ≤ 40 then i - 10 else i - 40
def ctOk (y : Int) : Bool := decide (OkD 2 y (ctM (ctI y)) (ctD (ctI y)) ∧ num 2 y (ctM (ctI y)) (ctD (ctI y)) = esN 1 y ∧ (ctM (ctI y) = 4 ∧ 4 ≤ ctD (ctI y) ∨ ctM (ctI y) = 5 ∧ ctD (ctI y) ≤ 8) ∧ dmo (easI 2 y) ≤ ctM (ctI y) ∧ 0 ≤ gpN y ∧ gpN y ≤ 35 ∧ flE 2 y = 0 ∧ flE 1 y = 0)
theorem ct_all : ∀ n : Fin 200, ctOk (1900 + (n.val : Int)) = true := by decide +kernel
theorem OrthodoxCentury_walk (n : Int) (_b : 0 ≤ n ∧ n ≤ 255) (w : World) (hT : RTab w) :
    Calls Tryd.prog 17 #[.int .u8 n] w fun e w' => e = .returned (.bool true) ∧ Kept w w' := by
  obtain ⟨c1, c2⟩ := _b
  have KT := Lib.hid (fun w' (k : Kept w w') => hT.kept k)
  clear hT
  have hc := ct_all ⟨(n % 200).toNat, by omega⟩
  simp only [Int.toNat_of_nonneg (show 0 ≤ n % 200 by omega)] at hc
  obtain ⟨q1, q2, q3, q4, q5, q6, q7, q8⟩ := of_decide_eq_true hc
  have hy : 1900 ≤ 1900 + n % 200 ∧ 1900 + n % 200 ≤ 2099 := by omega
  clear hc
  have KD := Lib.hid (fun w hT => ODate_any (1900 + n % 200) (1900 + n % 200) (ctM (ctI (1900 + n % 200))) (ctD (ctI (1900 + n % 200))) 0 w hT (.inr ⟨q8, fd2 _ _ _ _ q1 q2⟩))
  have KG := Lib.hid (fun w hT => OGap_any (1900 + n % 200) w hT)
  have KE := Lib.hid (fun w hT => EDate_any 2 (1900 + n % 200) w hT sm_2)
  obtain ⟨a1, a2, a3⟩ := ed_fit 2 (1900 + n % 200) q7
  rw [a1, a2, a3, q7] at KE
  rw [q7] at KG
  clear q1 q2 q7 q8 a1 a2 a3
  generalize ctM (ctI (1900 + n % 200)) = z2 at *
  generalize ctD (ctI (1900 + n % 200)) = z3 at *
  generalize dmo (easI 2 (1900 + n % 200)) = x2 at *
  generalize dda (easI 2 (1900 + n % 200)) = x3 at *
  generalize gpN (1900 + n % 200) = g at *
  rcases q3 with ⟨rfl, q3⟩ | ⟨rfl, q3⟩
  all_goals
    go_enter Tryd.func17, Tryd.ntmps17
    go_wp2_with fail
    (go_at_call 43; refine (Ort_awake _ (KT.out _ (by repeat (first | with_reducible exact Kept.refl _ | with_reducible assumption | with_reducible refine Kept.drew ?_ | with_reducible refine Kept.drewN ?_ _ | with_reducible refine Kept.alloc ?_ _ | (with_reducible refine Kept.setCell ?_ (by first | exact Nat.le_refl _ | omega | (simp; done) | (simp; omega)) _) | (with_reducible refine Kept.trans ?_ (by with_reducible assumption)))))).mono ?_; rintro e w1 ⟨rfl, hk1⟩)
    go_wp2_with fail
    (go_at_call 44; refine (KD.out _ (KT.out _ (by repeat (first | with_reducible exact Kept.refl _ | with_reducible assumption | with_reducible refine Kept.drew ?_ | with_reducible refine Kept.drewN ?_ _ | with_reducible refine Kept.alloc ?_ _ | (with_reducible refine Kept.setCell ?_ (by first | exact Nat.le_refl _ | omega | (simp; done) | (simp; omega)) _) | (with_reducible refine Kept.trans ?_ (by with_reducible assumption)))))).mono ?_; rintro e w2 ⟨rfl, hk2⟩)
    go_wp2_with fail
    (go_at_call 48; refine (KG.out _ (KT.out _ (by repeat (first | with_reducible exact Kept.refl _ | with_reducible assumption | with_reducible refine Kept.drew ?_ | with_reducible refine Kept.drewN ?_ _ | with_reducible refine Kept.alloc ?_ _ | (with_reducible refine Kept.setCell ?_ (by first | exact Nat.le_refl _ | omega | (simp; done) | (simp; omega)) _) | (with_reducible refine Kept.trans ?_ (by with_reducible assumption)))))).mono ?_; rintro e w3 ⟨rfl, hk3⟩)
    have hB3_3 := hk3
    obtain ⟨hc3_3, hf3_3⟩ := kept_cells hB3_3
    have hz3_0_3 : w2.heap.size < w3.heap.size := by have := hB3_3.size; simp at this; omega
    go_wp2_with fail
    (go_at_call 36; refine (KE.out _ (KT.out _ (by repeat (first | with_reducible exact Kept.refl _ | with_reducible assumption | with_reducible refine Kept.drew ?_ | with_reducible refine Kept.drewN ?_ _ | with_reducible refine Kept.alloc ?_ _ | (with_reducible refine Kept.setCell ?_ (by first | exact Nat.le_refl _ | omega | (simp; done) | (simp; omega)) _) | (with_reducible refine Kept.trans ?_ (by with_reducible assumption)))))).mono ?_; rintro e w4 ⟨rfl, hk4⟩)
    have hB3_4 := Kept.trans hB3_3 hk4
    obtain ⟨hc3_4, hf3_4⟩ := kept_cells hB3_4
    have hz3_0_4 : w2.heap.size < w4.heap.size := by have := hB3_4.size; simp at this; omega
    go_wp2
    go_ret
    exact ⟨by first | rfl | (show Ending.returned (Value.bool _) = Ending.returned (Value.bool _); congr 2; simp; omega), (by repeat (first | with_reducible exact Kept.refl _ | with_reducible assumption | with_reducible refine Kept.drew ?_ | with_reducible refine Kept.drewN ?_ _ | with_reducible refine Kept.alloc ?_ _ | (with_reducible refine Kept.setCell ?_ (by first | exact Nat.le_refl _ | omega | (simp; done) | (simp; omega)) _) | (with_reducible refine Kept.trans ?_ (by with_reducible assumption))))⟩

set_option maxRecDepth 100000 in
theorem OrthodoxCentury_contract (H : Type) (enc : TypeId × Value → H) (W : World) (base : Nat) (args : Array Value) (ds gs : List (DataW H)) (before : List MemPlace)
    (hval : ∀ (j : Nat) t v, Tryd.f17.params[j]? = some t → args[j]? = some v → Value.okWide Tryd.prog W .any base t v)
    (hW : DataW.Whole enc Tryd.prog Tryd.f17.params.toList Rows.orthodoxCenturySpec.vars false W args.toList ds gs before) (hL : laidMetH Tryd.prog Rows.orthodoxCenturyRow.laid W) :
    Calls Tryd.prog 17 args W fun e W' => ∃ v, e = .returned v ∧ Rows.orthodoxCenturySpec.post enc Tryd.prog Tryd.f17 false true false false W args v W' := by
  have hW' := hW
  obtain ⟨p, q, hA0, hV, rfl, hfz, hnd⟩ := hW
  have hA : DataW.TrodAll enc Tryd.prog W 0 (fun _ => true) true Tryd.f17.params.toList args.toList ds p := hA0
  rw [Tryd.params17] at hA hval
  obtain ⟨v0, vs0, d0, ds0, p0, q0, hargs, rfl, rfl, h0, r0⟩ := trodAll_cons hA
  obtain ⟨rfl, rfl, rfl⟩ := trodAll_nil r0
  obtain rfl : args = #[v0] := by cases args; simp_all
  obtain ⟨rfl, rfl⟩ := trodVars_none hV
  obtain ⟨a0, rfl, rfl, rfl, w0⟩ := open_int Tryd.underlying5 (hval 0 5 v0 rfl rfl) h0
  clear hA0
  simp only [List.append_nil] at hW'
  refine (OrthodoxCentury_walk a0 (wf_bounds8 w0) W (tab_of hL)).mono fun e W' ⟨he, hg⟩ => ?_
  subst he
  exact ⟨_, rfl, post_of_kept (pa := []) (pv := []) hW' (fun _ _ _ => (trodAll_cons_mk (shut_bool Tryd.underlying4 _) trodAll_mk0)) (fun sp _ => (trodAll_cons_mk (shut_int Tryd.underlying5 w0) trodAll_mk0)) (fun _ _ => rfl) rfl
    hg (ok_one (by kernel_rfl) rfl (okWide_bool_mk Tryd.underlying4 _))⟩
theorem OrthodoxCentury_laid (os : Os) : laidMet Tryd.prog Rows.orthodoxCenturyRow.laid ((laidWorld os).forCall (fun _ _ => 0) ⟨#[], #[.int .u8 0], []⟩).memory :=
  laidMet_of_run' 8 (by kernel_rfl) (by kernel_rfl)
theorem OrthodoxCentury_reads (os : Os) {H : Type} (enc : TypeId × Value → H) : ∃ places, DataW.whole enc Tryd.prog ((laidWorld os).forCall (fun _ _ => 0) ⟨#[], #[.int .u8 0], []⟩).memory Tryd.f17.params.toList Rows.orthodoxCenturySpec.vars false (#[.int .u8 0] : Array Value).toList 8 = some ([.lit (.int .u8 0)], [], places) :=
  ⟨[], by kernel_rfl⟩
set_option maxRecDepth 100000 in
theorem OrthodoxCentury_lifted (os : Os) (started : os.Started) (H : Type) (enc : TypeId × Value → H) (F : Stop.Interp) :
    ReturnsInHanded {} Tryd.checked os 17 .any ((OpenSpec.ofChange Rows.orthodoxCenturySpec).preRow enc Tryd.prog Tryd.f17 Rows.orthodoxCenturyRow.domain false Rows.orthodoxCenturyRow.laid) (((OpenSpec.ofChange Rows.orthodoxCenturySpec).at F).post enc Tryd.prog Tryd.f17 false true false false) := by
  obtain ⟨places, hx⟩ := OrthodoxCentury_reads os enc
  refine returnsInHanded_of_row (C := Tryd.checked) (s := OpenSpec.ofChange Rows.orthodoxCenturySpec) own_knob started (by kernel_rfl) Tryd.func17
    (witness_row_at (enc := enc) (C := Tryd.checked) false (laidWorld os) #[.int .u8 0] rfl (by kernel_rfl) (by kernel_rfl) (by kernel_rfl)
      (OpenSpec.preRow_of_cond 8 hx (by kernel_rfl) (fun k hk => by cases hk) (by kernel_rfl) (OrthodoxCentury_laid os))) ?_
  intro W base args ds gs before hval hW _ _ _ hL _ _
  exact OrthodoxCentury_contract H enc W base args ds gs before hval hW hL
theorem OrthodoxCentury_closed : joinedFacts Tryd.pinned.checked.prog 17 Tryd.f17 (OpenSpec.ofChange Rows.orthodoxCenturySpec).bare Rows.orthodoxCenturyRow = true := by
  unfold joinedFacts
  simp only [Bool.and_eq_true]
  repeat' apply And.intro
  all_goals (first | with_reducible exact head_enter | (rw [head_make]; rfl) | (rw [head_final]; rfl) | (as_aux_lemma => kernel_rfl))
theorem OrthodoxCentury_said : Rows.OrthodoxCenturySaid :=
  OpenClaim.holds_of_cond 17 Tryd.f17 rfl rfl rfl rfl rfl rfl rfl ⟨rfl, rfl, rfl, rfl, rfl⟩ rfl rfl rfl rfl rfl (by kernel_rfl) Tryd.func17 OrthodoxCentury_closed
    (of_decide_eq_true (by kernel_rfl)) (by unfold Func.isWrapper; first | (rw [if_pos (by decide +kernel)]; kernel_rfl) | (rw [if_neg (by decide +kernel)]; exact ⟨rfl, rfl⟩))
    (fun os started H enc _ F => by rw [OpenClaim.pre_eq_preRow]; exact OrthodoxCentury_lifted os started H enc F)
theorem OrthodoxCentury_plain (f : FuncId) (fn : Func) (hf : Tryd.pinned.checked.prog.funcNamed "computus/computuslaw13.OrthodoxCentury" = some f) (hfn : Tryd.pinned.checked.prog.funcs[f]? = some fn) :
    false = Tryd.pinned.checked.prog.looks [] ∧ ∀ (j : Nat) t, fn.params[j]? = some t → Tryd.pinned.checked.prog.wantsStandIn t = false := by
  obtain rfl : f = 17 := Option.some.inj ((show Tryd.prog.funcNamed "computus/computuslaw13.OrthodoxCentury" = some 17 by kernel_rfl).symm.trans hf) |>.symm
  obtain rfl : fn = Tryd.f17 := (Option.some.inj (Tryd.func17.symm.trans hfn)).symm
  refine ⟨by kernel_rfl, fun j t ht => ?_⟩
  rw [Tryd.params17] at ht
  have hm : t ∈ [5] := by simpa using Array.mem_of_getElem? ht
  have hall : ([5].all fun u => !Tryd.prog.wantsStandIn u) = true := by kernel_rfl
  exact (show Tryd.prog.wantsStandIn t = false by simpa using List.all_eq_true.1 hall t hm)
theorem OrthodoxCentury_proved : Rows.OrthodoxCenturyCardSaid :=
  Claim7.holds_tied_plain_at .later [] _ _ _ _ OrthodoxCentury_said (fun _ h => by cases h) (by kernel_rfl) (fun _ h => by cases h) orthodoxCentury_row_tie rfl ⟨rfl, rfl⟩ (mainIs_of io_list (by kernel_rfl)) rfl OrthodoxCentury_plain (by kernel_rfl)
#print axioms OrthodoxCentury_proved
end Go.Proofs.YtliomdnglhjfaaaDoor
